/- Texts of this proof, what it rests on, merged: part E. -/
import Derived.Test.YtlfbkkljgighkaaGreatDoorProg
import Derived.KernelRfl
import Derived.Test.YtlfbkkljgighkaaGreatDoorSpD
noncomputable section
namespace Go.Am
open Go Go.Proofs
open Go.IntKind (i64)
open Tryz
set_option maxRecDepth 100000
set_option linter.unusedVariables false
set_option linter.unusedSimpArgs false
set_option maxHeartbeats 2000000
theorem AX{p:Prop}(h:p:=by kernel_rfl):p:=h
theorem ti2:Dz prog 2=some ⟨1,8,.int .i64,.p (.int .i64 0)⟩:=AX
theorem ti3:Dz prog 3=some ⟨1,8,.int .i64,.p (.int .i64 0)⟩:=AX
theorem ti4:Dz prog 4=some ⟨1,1,.bool,.p (.bool false)⟩:=AX
theorem ti5:Dz prog 5=some ⟨1,1,.int .u8,.p (.int .u8 0)⟩:=AX
theorem ti9:Dz prog 9=some ⟨1,16,.string,.p (.str [])⟩:=AX
theorem Byl:Dz prog 22=some ⟨1,24,.slice 49,.cl []⟩:=AX
theorem Bo1:Dz prog 23=some ⟨1,24,.slice 3,.cl []⟩:=AX
theorem Byk:Dz prog 26=some ⟨1,24,.slice 9,.cl []⟩:=AX
theorem Byj:Dz prog 27=some ⟨1,24,.slice 53,.cl []⟩:=AX
theorem Brc:Dz prog 28=some ⟨1,24,.slice 23,.cl []⟩:=AX
theorem Byi:Dz prog 29=some ⟨1,24,.slice 57,.cl []⟩:=AX
theorem Byh:Dz prog 31=some ⟨4,32,.struct [(0,3),(1,3),(2,3),(3,3)],.agg [.p (.int .i64 0),.p (.int .i64 0),.p (.int .i64 0),.p (.int .i64 0)]⟩:=AX
theorem Byg:Dz prog 33=some ⟨8,128,.struct [(0,27),(1,28),(2,29),(3,23),(4,31)],.agg [.cl [],.cl [],.cl [],.cl [],.p (.int .i64 0),.p (.int .i64 0),.p (.int .i64 0),.p (.int .i64 0)]⟩:=AX
theorem Byf:Dz prog 37=some ⟨2,32,.struct [(0,23),(1,3)],.agg [.cl [],.p (.int .i64 0)]⟩:=AX
theorem Bye:Dz prog 39=some ⟨1,24,.slice 22,.cl []⟩:=AX
theorem Byd:Dz prog 49=some ⟨4,40,.struct [(0,3),(1,3),(2,3),(3,9)],.agg [.p (.int .i64 0),.p (.int .i64 0),.p (.int .i64 0),.p (.str [])]⟩:=AX
theorem Caq:Bf1 prog 49=some [.int,.int,.int,.str]:=AX
theorem Byc:Dz prog 53=some ⟨3,32,.struct [(0,9),(1,3),(2,3)],.agg [.p (.str []),.p (.int .i64 0),.p (.int .i64 0)]⟩:=AX
theorem Byb:Dz prog 57=some ⟨6,56,.struct [(0,9),(1,4),(2,3),(3,3),(4,3),(5,3)],.agg [.p (.str []),.p (.bool false),.p (.int .i64 0),.p (.int .i64 0),.p (.int .i64 0),.p (.int .i64 0)]⟩:=AX
theorem Bya:Dz prog 59=some ⟨4,48,.struct [(0,3),(1,23),(2,3),(3,3)],.agg [.p (.int .i64 0),.cl [],.p (.int .i64 0),.p (.int .i64 0)]⟩:=AX
theorem By9:Dz prog 64=some ⟨2,48,.struct [(0,23),(1,28)],.agg [.cl [],.cl []]⟩:=AX
theorem By8:Dz prog 65=some ⟨1,24,.slice 4,.cl []⟩:=AX
theorem By7:Dz prog 67=some ⟨3,72,.struct [(0,65),(1,23),(2,23)],.agg [.cl [],.cl [],.cl []]⟩:=AX
theorem By6:Dz prog 68=some ⟨1,24,.slice 171,.cl []⟩:=AX
theorem By5:Dz prog 69=some ⟨1,24,.slice 229,.cl []⟩:=AX
theorem By4:Dz prog 71=some ⟨8,176,.struct [(0,64),(2,67),(5,68),(6,69),(7,4)],.agg [.cl [],.cl [],.cl [],.cl [],.cl [],.cl [],.cl [],.p (.bool false)]⟩:=AX
theorem By3:Dz prog 72=some ⟨1,24,.slice 118,.cl []⟩:=AX
theorem By2:Dz prog 73=some ⟨1,24,.slice 121,.cl []⟩:=AX
theorem By1:Dz prog 74=some ⟨1,24,.slice 134,.cl []⟩:=AX
theorem By0:Dz prog 76=some ⟨12,272,.struct [(0,71),(8,72),(9,73),(10,74),(11,74)],.agg [.cl [],.cl [],.cl [],.cl [],.cl [],.cl [],.cl [],.p (.bool false),.cl [],.cl [],.cl [],.cl []]⟩:=AX
theorem Bxz:Dz prog 84=some ⟨2,16,.struct [(0,3),(1,3)],.agg [.p (.int .i64 0),.p (.int .i64 0)]⟩:=AX
theorem Bxy:Dz prog 85=some ⟨1,24,.slice 242,.cl []⟩:=AX
theorem Bxx:Dz prog 88=some ⟨1,24,.slice 92,.cl []⟩:=AX
theorem Bxw:Dz prog 92=some ⟨2,32,.struct [(0,3),(1,26)],.agg [.p (.int .i64 0),.cl []]⟩:=AX
theorem Bo0:Dz prog 96=some ⟨1,24,.slice 5,.cl []⟩:=AX
theorem Bra:Dz prog 98=some ⟨2,32,.struct [(0,95),(1,96)],.agg [.np,.cl []]⟩:=AX
theorem Brx:Dz prog 118=some ⟨4,24,.struct [(0,3),(1,3),(2,4),(3,4)],.agg [.p (.int .i64 0),.p (.int .i64 0),.p (.bool false),.p (.bool false)]⟩:=AX
theorem Brw:Dz prog 119=some ⟨1,8,.int .u64,.p (.int .u64 0)⟩:=AX
theorem Brv:Dz prog 121=some ⟨5,40,.struct [(0,119),(1,3),(2,4),(3,3),(4,3)],.agg [.p (.int .u64 0),.p (.int .i64 0),.p (.bool false),.p (.int .i64 0),.p (.int .i64 0)]⟩:=AX
theorem Bru:Dz prog 123=some ⟨1,24,.slice 127,.cl []⟩:=AX
theorem Brt:Dz prog 127=some ⟨3,24,.struct [(0,3),(1,3),(2,3)],.agg [.p (.int .i64 0),.p (.int .i64 0),.p (.int .i64 0)]⟩:=AX
theorem Brs:Dz prog 131=some ⟨21,424,.struct [(0,33),(8,76),(20,85)],.agg [.cl [],.cl [],.cl [],.cl [],.p (.int .i64 0),.p (.int .i64 0),.p (.int .i64 0),.p (.int .i64 0),.cl [],.cl [],.cl [],.cl [],.cl [],.cl [],.cl [],.p (.bool false),.cl [],.cl [],.cl [],.cl [],.cl []]⟩:=AX
theorem Brr:Dz prog 134=some ⟨1,24,.slice 178,.cl []⟩:=AX
theorem Brq:Dz prog 135=some ⟨1,24,.slice 205,.cl []⟩:=AX
theorem Brp:Dz prog 137=some ⟨5,120,.struct [(0,134),(1,85),(2,135),(3,23),(4,23)],.agg [.cl [],.cl [],.cl [],.cl [],.cl []]⟩:=AX
theorem Bro:Dz prog 146=some ⟨1,24,.slice 148,.cl []⟩:=AX
theorem Brn:Dz prog 148=some ⟨3,32,.struct [(0,9),(1,3),(2,3)],.agg [.p (.str []),.p (.int .i64 0),.p (.int .i64 0)]⟩:=AX
theorem Brm:Dz prog 151=some ⟨2,16,.array 2 3,.agg [.p (.int .i64 0),.p (.int .i64 0)]⟩:=AX
theorem Brl:Dz prog 158=some ⟨1,24,.slice 20,.cl []⟩:=AX
theorem Brk:Dz prog 171=some ⟨13,112,.struct [(0,3),(1,4),(2,3),(3,3),(4,3),(5,119),(6,4),(7,4),(8,3),(9,3),(10,23),(11,3),(12,3)],.agg [.p (.int .i64 0),.p (.bool false),.p (.int .i64 0),.p (.int .i64 0),.p (.int .i64 0),.p (.int .u64 0),.p (.bool false),.p (.bool false),.p (.int .i64 0),.p (.int .i64 0),.cl [],.p (.int .i64 0),.p (.int .i64 0)]⟩:=AX
theorem Brj:Dz prog 174=some ⟨21,424,.struct [(0,33),(8,71),(16,137)],.agg [.cl [],.cl [],.cl [],.cl [],.p (.int .i64 0),.p (.int .i64 0),.p (.int .i64 0),.p (.int .i64 0),.cl [],.cl [],.cl [],.cl [],.cl [],.cl [],.cl [],.p (.bool false),.cl [],.cl [],.cl [],.cl [],.cl []]⟩:=AX
theorem Bri:Dz prog 178=some ⟨5,40,.struct [(0,3),(1,3),(2,119),(3,3),(4,3)],.agg [.p (.int .i64 0),.p (.int .i64 0),.p (.int .u64 0),.p (.int .i64 0),.p (.int .i64 0)]⟩:=AX
theorem Brh:Dz prog 183=some ⟨4,48,.struct [(0,3),(1,9),(2,9),(3,3)],.agg [.p (.int .i64 0),.p (.str []),.p (.str []),.p (.int .i64 0)]⟩:=AX
theorem Brg:Dz prog 205=some ⟨2,16,.struct [(0,3),(1,3)],.agg [.p (.int .i64 0),.p (.int .i64 0)]⟩:=AX
theorem Brf:Dz prog 224=some ⟨5,120,.struct [(0,67),(3,69),(4,68)],.agg [.cl [],.cl [],.cl [],.cl [],.cl []]⟩:=AX
theorem Bre:Dz prog 229=some ⟨5,40,.struct [(0,3),(1,3),(2,3),(3,3),(4,3)],.agg [.p (.int .i64 0),.p (.int .i64 0),.p (.int .i64 0),.p (.int .i64 0),.p (.int .i64 0)]⟩:=AX
theorem Brd:Dz prog 242=some ⟨4,32,.struct [(0,3),(1,3),(2,3),(3,3)],.agg [.p (.int .i64 0),.p (.int .i64 0),.p (.int .i64 0),.p (.int .i64 0)]⟩:=AX
theorem Brb:Dz prog 304=some ⟨8,8,.array 8 4,.agg [.p (.bool false),.p (.bool false),.p (.bool false),.p (.bool false),.p (.bool false),.p (.bool false),.p (.bool false),.p (.bool false)]⟩:=AX
theorem Avl:Enters prog 3:=call3
theorem Bkq:Enters prog 5:=call5
theorem Bkp:Enters prog 6:=call6
theorem Bko:Enters prog 7:=call7
theorem Bkn:Enters prog 8:=call8
theorem Bkm:Enters prog 9:=call9
theorem Bh5:Enters prog 10:=call10
theorem Bh4:Enters prog 11:=call11
theorem Bh3:Enters prog 12:=call12
theorem Bh2:Enters prog 13:=call13
theorem Aee:Enters prog 14:=call14
theorem Apf:Enters prog 15:=call15
theorem Bh1:Enters prog 16:=call16
theorem Ape:Enters prog 17:=call17
theorem Aed:Enters prog 18:=call18
theorem Bh0:Enters prog 19:=call19
theorem Bgz:Enters prog 20:=call20
theorem Bgy:Enters prog 21:=call21
theorem Bgx:Enters prog 22:=call22
theorem Bgw:Enters prog 23:=call23
theorem Bgv:Enters prog 24:=call24
theorem Bgu:Enters prog 25:=call25
theorem Bgt:Enters prog 26:=call26
theorem Bgs:Enters prog 27:=call27
theorem Bgr:Enters prog 28:=call28
theorem Apd:Enters prog 29:=call29
theorem Apc:Enters prog 30:=call30
theorem Apb:Enters prog 31:=call31
theorem Bgq:Enters prog 32:=call32
theorem Aec:Enters prog 33:=call33
theorem Bgp:Enters prog 34:=call34
theorem Bgo:Enters prog 35:=call35
theorem Apa:Enters prog 36:=call36
theorem Ap9:Enters prog 37:=call37
theorem Ap8:Enters prog 38:=call38
theorem Bgn:Enters prog 39:=call39
theorem Bgm:Enters prog 40:=call40
theorem Bgl:Enters prog 41:=call41
theorem Bgk:Enters prog 42:=call42
theorem Bgj:Enters prog 43:=call43
theorem Bgi:Enters prog 44:=call44
theorem Bgh:Enters prog 45:=call45
theorem Bgg:Enters prog 46:=call46
theorem Bgf:Enters prog 47:=call47
theorem Bge:Enters prog 48:=call48
theorem Bgd:Enters prog 49:=call49
theorem Bgc:Enters prog 50:=call50
theorem Ap7:Enters prog 51:=call51
theorem Ap6:Enters prog 52:=call52
theorem Bgb:Enters prog 53:=call53
theorem Bga:Enters prog 54:=call54
theorem Bg9:Enters prog 55:=call55
theorem Bg8:Enters prog 56:=call56
theorem Bg7:Enters prog 57:=call57
theorem Bg6:Enters prog 58:=call58
theorem Bg5:Enters prog 59:=call59
theorem Bg4:Enters prog 60:=call60
theorem Bg3:Enters prog 61:=call61
theorem Ap5:Enters prog 62:=call62
theorem Bg2:Enters prog 63:=call63
theorem Bg1:Enters prog 64:=call64
theorem Bg0:Enters prog 65:=call65
theorem Ap4:Enters prog 66:=call66
theorem Ap3:Enters prog 67:=call67
theorem Ap2:Enters prog 68:=call68
theorem Bfz:Enters prog 69:=call69
theorem Bfy:Enters prog 70:=call70
theorem Bfx:Enters prog 71:=call71
theorem Bfw:Enters prog 72:=call72
theorem Ap1:Enters prog 73:=call73
theorem Bfv:Enters prog 74:=call74
theorem Bfu:Enters prog 75:=call75
theorem Bft:Enters prog 76:=call76
theorem Bfs:Enters prog 77:=call77
theorem Bfr:Enters prog 78:=call78
theorem Bfq:Enters prog 79:=call79
theorem Bfp:Enters prog 80:=call80
theorem Ap0:Enters prog 81:=call81
theorem Bfo:Enters prog 82:=call82
theorem Bfn:Enters prog 83:=call83
theorem Bfm:Enters prog 84:=call84
theorem Bfl:Enters prog 85:=call85
theorem Bfk:Enters prog 86:=call86
theorem Bfj:Enters prog 87:=call87
theorem Aoz:Enters prog 88:=call88
theorem Bfi:Enters prog 89:=call89
theorem Bfh:Enters prog 90:=call90
theorem Bfg:Enters prog 91:=call91
theorem Bff:Enters prog 92:=call92
theorem Bfe:Enters prog 93:=call93
theorem Bfd:Enters prog 94:=call94
theorem Bfc:Enters prog 95:=call95
theorem Bfb:Enters prog 96:=call96
theorem Bfa:Enters prog 97:=call97
theorem Bf9:Enters prog 98:=call98
theorem Bf8:Enters prog 99:=call99
theorem Baq:Enters prog 100:=call100
theorem Bap:Enters prog 101:=call101
theorem Bao:Enters prog 102:=call102
theorem Ban:Enters prog 104:=call104
theorem Bam:Enters prog 105:=call105
theorem Bal:Enters prog 106:=call106
theorem Bak:Enters prog 108:=call108
theorem Aij:Enters prog 109:=call109
theorem Aii:Enters prog 110:=call110
theorem Zj:Enters prog 111:=call111
theorem Baj:Enters prog 112:=call112
theorem Bai:Enters prog 113:=call113
theorem Bah:Enters prog 114:=call114
theorem Aih:Enters prog 115:=call115
theorem Bag:Enters prog 116:=call116
theorem Baf:Enters prog 117:=call117
theorem Bae:Enters prog 118:=call118
theorem Bad:Enters prog 119:=call119
theorem Bac:Enters prog 120:=call120
theorem Aig:Enters prog 121:=call121
theorem Bab:Enters prog 122:=call122
theorem Baa:Enters prog 123:=call123
theorem Ba9:Enters prog 124:=call124
theorem Ba8:Enters prog 125:=call125
theorem Ba7:Enters prog 126:=call126
theorem Ba6:Enters prog 127:=call127
theorem Ba5:Enters prog 128:=call128
theorem Ba4:Enters prog 129:=call129
theorem Ba3:Enters prog 130:=call130
theorem Ba2:Enters prog 131:=call131
theorem Ba1:Enters prog 132:=call132
theorem Ba0:Enters prog 133:=call133
theorem Azz:Enters prog 134:=call134
theorem Azy:Enters prog 135:=call135
theorem Azx:Enters prog 136:=call136
theorem Azw:Enters prog 137:=call137
theorem Azv:Enters prog 138:=call138
theorem Azu:Enters prog 139:=call139
theorem Aif:Enters prog 140:=call140
theorem Azt:Enters prog 141:=call141
theorem Azs:Enters prog 142:=call142
theorem Aie:Enters prog 143:=call143
theorem Azr:Enters prog 144:=call144
theorem Azq:Enters prog 145:=call145
theorem Azp:Enters prog 146:=call146
theorem Azo:Enters prog 147:=call147
theorem Azn:Enters prog 148:=call148
theorem Aid:Enters prog 149:=call149
theorem Azm:Enters prog 150:=call150
theorem Azl:Enters prog 151:=call151
theorem Azk:Enters prog 152:=call152
theorem Azj:Enters prog 153:=call153
theorem Azi:Enters prog 155:=call155
theorem Azh:Enters prog 156:=call156
theorem Azg:Enters prog 158:=call158
theorem Azf:Enters prog 160:=call160
theorem Aic:Enters prog 161:=call161
theorem Aze:Enters prog 162:=call162
theorem Azd:Enters prog 163:=call163
theorem Azc:Enters prog 164:=call164
theorem Azb:Enters prog 165:=call165
theorem Aza:Enters prog 166:=call166
theorem Az9:Enters prog 167:=call167
theorem Az8:Enters prog 168:=call168
theorem Az7:Enters prog 169:=call169
theorem Az6:Enters prog 170:=call170
theorem Az5:Enters prog 171:=call171
theorem Az4:Enters prog 172:=call172
theorem Az3:Enters prog 173:=call173
theorem Az2:Enters prog 174:=call174
theorem Az1:Enters prog 175:=call175
theorem Az0:Enters prog 176:=call176
theorem Ayz:Enters prog 177:=call177
theorem Ayy:Enters prog 178:=call178
theorem Ayx:Enters prog 179:=call179
theorem Ayw:Enters prog 180:=call180
theorem Ayv:Enters prog 181:=call181
theorem Ayu:Enters prog 182:=call182
theorem Ayt:Enters prog 183:=call183
theorem Ays:Enters prog 184:=call184
theorem Ayr:Enters prog 185:=call185
theorem Ayq:Enters prog 186:=call186
theorem Ayp:Enters prog 187:=call187
theorem Ayo:Enters prog 188:=call188
theorem Ayn:Enters prog 189:=call189
theorem Aym:Enters prog 190:=call190
theorem Ayl:Enters prog 191:=call191
theorem Ayk:Enters prog 192:=call192
theorem Ayj:Enters prog 193:=call193
theorem Ayi:Enters prog 194:=call194
theorem Ayh:Enters prog 195:=call195
theorem Ayg:Enters prog 199:=call199
theorem Ayf:Enters prog 201:=call201
theorem Aye:Enters prog 203:=call203
theorem Ayd:Enters prog 204:=call204
theorem Ayc:Enters prog 205:=call205
theorem Ayb:Enters prog 206:=call206
theorem Aya:Enters prog 207:=call207
theorem Ay9:Enters prog 208:=call208
theorem Ay8:Enters prog 209:=call209
theorem Ay7:Enters prog 210:=call210
theorem Ay6:Enters prog 211:=call211
theorem Ay5:Enters prog 212:=call212
theorem Ay4:Enters prog 213:=call213
theorem Ay3:Enters prog 214:=call214
theorem Ay2:Enters prog 216:=call216
theorem Ay1:Enters prog 224:=call224
theorem Ay0:Enters prog 225:=call225
theorem Axz:Enters prog 226:=call226
theorem Axy:Enters prog 227:=call227
theorem mixed:prog.follows .mixedOrders=true:=AX
attribute [go_sem] ti2 ti3 ti4 ti5 ti9 Byl Bo1 Byk Byj
attribute [go_sem] Brc Byi Byh Byg Byf Bye
attribute [go_sem] Byd Caq Byc
attribute [go_sem] Byb Bya By9 By8 By7 By6 By5
attribute [go_sem] By4 By3 By2 By1 By0 Bxz Bxy Bxx
attribute [go_sem] Bxw Bo0 Bra Brx Brw
attribute [go_sem] Brv Bru Brt Brs Brr
attribute [go_sem] Brq Brp Bro Brn Brm Brl
attribute [go_sem] Brk Brj Bri Brh
attribute [go_sem] Brg Brf Bre
attribute [go_sem] Brd Brb
attribute [go_sem] ntmps3 results3
attribute [go_sem] ntmps5 results5 ntmps6 results6 ntmps7 results7 ntmps8 results8 ntmps9 results9
attribute [go_sem] ntmps10 results10 ntmps11 results11 ntmps12 results12 ntmps13 results13 ntmps14 results14 ntmps15 results15
attribute [go_sem] ntmps16 results16 ntmps17 results17 ntmps18 results18 ntmps19 results19 ntmps20 results20 ntmps21 results21
attribute [go_sem] ntmps22 results22 ntmps23 results23 ntmps24 results24 ntmps25 results25 ntmps26 results26 ntmps27 results27
attribute [go_sem] ntmps28 results28 ntmps29 results29 ntmps30 results30 ntmps31 results31 ntmps32 results32 ntmps33 results33
attribute [go_sem] ntmps34 results34 ntmps35 results35 ntmps36 results36 ntmps37 results37 ntmps38 results38 ntmps39 results39
attribute [go_sem] ntmps40 results40 ntmps41 results41 ntmps42 results42 ntmps43 results43 ntmps44 results44 ntmps45 results45
attribute [go_sem] ntmps46 results46 ntmps47 results47 ntmps48 results48 ntmps49 results49 ntmps50 results50 ntmps51 results51
attribute [go_sem] ntmps52 results52 ntmps53 results53 ntmps54 results54 ntmps55 results55 ntmps56 results56 ntmps57 results57
attribute [go_sem] ntmps58 results58 ntmps59 results59 ntmps60 results60 ntmps61 results61 ntmps62 results62 ntmps63 results63
attribute [go_sem] ntmps64 results64 ntmps65 results65 ntmps66 results66 ntmps67 results67 ntmps68 results68 ntmps69 results69
attribute [go_sem] ntmps70 results70 ntmps71 results71 ntmps72 results72 ntmps73 results73 ntmps74 results74 ntmps75 results75
attribute [go_sem] ntmps76 results76 ntmps77 results77 ntmps78 results78 ntmps79 results79 ntmps80 results80 ntmps81 results81
attribute [go_sem] ntmps82 results82 ntmps83 results83 ntmps84 results84 ntmps85 results85 ntmps86 results86 ntmps87 results87
attribute [go_sem] ntmps88 results88 ntmps89 results89 ntmps90 results90 ntmps91 results91 ntmps92 results92 ntmps93 results93
attribute [go_sem] ntmps94 results94 ntmps95 results95 ntmps96 results96 ntmps97 results97 ntmps98 results98 ntmps99 results99
attribute [go_sem] ntmps100 results100 ntmps101 results101 ntmps102 results102 ntmps104 results104 ntmps105 results105
attribute [go_sem] ntmps106 results106 ntmps108 results108 ntmps109 results109 ntmps110 results110 ntmps111 results111 ntmps112 results112
attribute [go_sem] ntmps113 results113 ntmps114 results114 ntmps115 results115 ntmps116 results116 ntmps117 results117 ntmps118 results118
attribute [go_sem] ntmps119 results119 ntmps120 results120 ntmps121 results121 ntmps122 results122 ntmps123 results123 ntmps124 results124
attribute [go_sem] ntmps125 results125 ntmps126 results126 ntmps127 results127 ntmps128 results128 ntmps129 results129 ntmps130 results130
attribute [go_sem] ntmps131 results131 ntmps132 results132 ntmps133 results133 ntmps134 results134 ntmps135 results135 ntmps136 results136
attribute [go_sem] ntmps137 results137 ntmps138 results138 ntmps139 results139 ntmps140 results140 ntmps141 results141 ntmps142 results142
attribute [go_sem] ntmps143 results143 ntmps144 results144 ntmps145 results145 ntmps146 results146 ntmps147 results147 ntmps148 results148
attribute [go_sem] ntmps149 results149 ntmps150 results150 ntmps151 results151 ntmps152 results152 ntmps153 results153
attribute [go_sem] ntmps155 results155 ntmps156 results156 ntmps158 results158 ntmps160 results160
attribute [go_sem] ntmps161 results161 ntmps162 results162 ntmps163 results163 ntmps164 results164 ntmps165 results165 ntmps166 results166
attribute [go_sem] ntmps167 results167 ntmps168 results168 ntmps169 results169 ntmps170 results170 ntmps171 results171 ntmps172 results172
attribute [go_sem] ntmps173 results173 ntmps174 results174 ntmps175 results175 ntmps176 results176 ntmps177 results177 ntmps178 results178
attribute [go_sem] ntmps179 results179 ntmps180 results180 ntmps181 results181 ntmps182 results182 ntmps183 results183 ntmps184 results184
attribute [go_sem] ntmps185 results185 ntmps186 results186 ntmps187 results187 ntmps188 results188 ntmps189 results189 ntmps190 results190
attribute [go_sem] ntmps191 results191 ntmps192 results192 ntmps193 results193 ntmps194 results194 ntmps195 results195
attribute [go_sem] ntmps199 results199 ntmps201 results201 ntmps203 results203 ntmps204 results204
attribute [go_sem] ntmps205 results205 ntmps206 results206 ntmps207 results207 ntmps208 results208 ntmps209 results209 ntmps210 results210
attribute [go_sem] ntmps211 results211 ntmps212 results212 ntmps213 results213 ntmps214 results214 ntmps216 results216
attribute [go_sem] ntmps224 results224 ntmps225 results225 ntmps226 results226 ntmps227 results227
attribute [go_sem ↓] reduceIte
attribute [go_sem] Nat.reduceLT Nat.reduceLeDiff Nat.reduceEqDiff Nat.reduceAdd Nat.reduceMul Nat.reduceSub reduceCtorEq Int.reduceLT Int.reduceLE Int.reduceEq Int.reduceToNat decide_true decide_false Int.reduceNeg Int.cast_ofNat_Int sg AO.sg Option.isNone_none
def CT(l:Aa):Ae:=l.map λ n=>[.int .i64 n]
abbrev Ai:=List (List UInt8)
def Eg(l:Ai):Ae:=l.map λ s=>[.str s]
theorem C1(l):(CT l).length=l.length:=by simp[CT]
theorem Fs(l)(i)(h:i<l.length):(CT l).getD i []=[.int .i64 (l.getD i 0)]:=by simp[CT,List.getD,h]
theorem DC(l):(Eg l).length=l.length:=by simp[Eg]
theorem Lj(l)(i)(h:i<l.length):(Eg l).getD i []=[.str (l.getD i [])]:=by simp[Eg,List.getD,h]
theorem L8(l)(x):CT (l++[x])=CT l++[[.int .i64 x]]:=by simp[CT]
theorem GL(l)(x):Eg (l++[x])=Eg l++[[.str x]]:=by simp[Eg]
theorem Uz(l)(n)(h:l.length<=n):(CT l).take n=CT l:=List.take_of_length_le (by simpa [CT] using h)
theorem L7(l)(n)(h:l.length<=n):(Eg l).take n=Eg l:=List.take_of_length_le (by simpa [Eg] using h)
abbrev iD(x:Int):D:= .p (.int .i64 x)
abbrev bD(x:Bool):D:= .p (.bool x)
abbrev sD(x:Ae):D:= .p (.sl x)
abbrev rD{α:Type}(i:Nat)(l:List α):D:= .ref i 0 l.length l.length
attribute [simp,go_sem] iD bD sD rD
theorem Lr(n)(x)(h:x.length=n):P0 n [x]:=by simp[P0,h]
theorem X9(l)(i)(x):Eg (l.set i x)=(Eg l).set i [.str x]:=by simp[Eg,BI]
theorem Ow(l)(i)(x):CT (l.set i x)=(CT l).set i [.int .i64 x]:=by simp[CT,BI]
theorem IF{α:Type}(l:List α)(i)(x:α)(h:i<l.length):l.getD i x∈l:=by simp only[List.getD,Bp h,BP];exact Ca h
theorem Ic{α:Type}(l:List α)(i)(x:α)(h:i<l.length):l.drop i=l.getD i x::l.drop (i+1):=by rw[List.drop_eq_getElem_cons h];simp[List.getD,h]
def Bip(x:Int):Prop:=-9223372036854775808<=x/\x<=9223372036854775807
theorem DG(i:Nat)(h:i<9223372036854775807):i64.wrap ((i:Int)+1)=((i+1:Nat):Int):=by rw[C6]<;>omega
def cut(v n:Int):Int:=if n<=1 then 0 else if v.tmod n<0 then v.tmod n+n else v.tmod n
theorem Bpo(v n):0<=cut v n/\(cut v n<n∨cut v n=0):=by
 unfold cut;split
 . omega
 . have a:=Int.tmod_lt_of_pos v (show 0<n by omega);have h2:=Int.lt_tmod_of_pos v (show 0<n by omega);split<;>omega
theorem Bhk(v n)(e:Bip n):C4 prog 33 [iD v,iD n] [] λ h r=>h=[]/\r=iD (cut v n):=by
 unfold Bip at e;refine Dw func33 rfl Aec (by simp[Tryz.f33]) ?_;simp only[go_sem];refine D2 (λ a=>?_) (λ a=>?_)
 . simp only[go_sem];simp at a;simp[cut,a]
 . simp only[go_sem];simp at a;refine ⟨AQ,?_⟩;refine D2 (λ h2=>?_) (λ h2=>?_)
   . simp at h2;have b:i64.wrap (v.tmod n+n)=v.tmod n+n:=by
       have f:=Int.tmod_lt_of_pos v (show 0<n by omega);have g:=Int.lt_tmod_of_pos v (show 0<n by omega);rw[C6]<;>omega
     simp only[go_sem,b];simp only[cut,h2,Cf,true_and];rw[if_neg AQ]
   . simp only[go_sem];simp at h2;simp only[cut,true_and];rw[if_neg AQ,if_neg AQ]
def Vz(l:Aa)(at_:Nat)(n:Int):Int:=cut (if at_<l.length then l.getD at_ 0 else ((at_:Int)*7).tmod 11) n
theorem Bde(l)(at_)(n):0<=Vz l at_ n/\(Vz l at_ n<n∨Vz l at_ n=0):=Bpo _ _
theorem F6(l)(at_)(n)(a:0<n):∃k:Nat,Vz l at_ n=(k:Int)/\(k:Int)<n:=by
 have h:=Bde l at_ n;exact ⟨(Vz l at_ n).toNat,AQ,AQ⟩
theorem E2(n)(h0:0<=n)(a:n<=1000000):Bip n:=by unfold Bip;omega
theorem J8(l):(Gz l).length=l.length:=by simp[Gz]
theorem Bhd(l)(i)(h:i<l.length):(Gz l).getD i []=[.int .u8 (l.getD i 0).toNat]:=by simp[Gz,List.getD,h]
def FB(l:Aa)(at_:Nat):Ah:=[.p (.sl (CT l)),.p (.int .i64 (at_:Nat))]
theorem ZF:(∀st Lt:St,Le st Lt=(Lt.n=st.n/\LeE st.env Lt.env/\KQ st.hp Lt.hp/\((JR Lt.env++JI Lt.hp).all λ id=>(get Lt.hp id).isSome)=true/\ON Lt.hp st.hp))/\
   (∀e:Ar,LeE e []=True)/\(∀(e:Ar) (t:Nat) (d:D) (r:Ar),LeE e ((t,d)::r)=(get e t=some d/\LeE e r))/\
   (∀h:Hp,KQ h []=True)/\(∀(h:Hp) (id:Nat) (o:AO) (r:Hp),KQ h ((id,o)::r)=(get h id=some o/\KQ h r))/\
   (∀(α:Type) (k:Nat),get ([]:List (Nat×α)) k=none)/\(∀(α:Type) (k':Nat) (x:α) (r:List (Nat×α)) (k:Nat),get ((k',x)::r) k=if k'=k then some x else get r k)/\
   JR []=[]/\(∀(t:Nat) (d:D) (r:Ar),JR ((t,d)::r)=d.ids++JR r)/\JI []=[]/\(∀(id:Nat) (o:AO) (r:Hp),JI ((id,o)::r)=o.ids++JI r)/\
   (∀h:Hp,ON h []=True)/\(∀(h:Hp) (id:Nat) (o:AO) (r:Hp),ON h ((id,o)::r)=((base<=id->get h id=some o)/\ON h r))/\
   (∀x,D.ids (.p x)=[])/\(∀cs,D.ids (.agg cs)=Fe cs)/\(∀cs,D.ids (.Em cs)=Fe cs)/\(∀es,D.ids (.cl es)=[])/\(∀es,D.ids (.cz es)=[])/\(∀i a b c,D.ids (.ref i a b c)=[i])/\(∀i a,D.ids (.ptr i a)=[i])/\(∀cs,D.ids (.pe cs)=[])/\
   (∀i a b c,D.ids (.ea i a b c)=[i])/\(∀f cs,D.ids (.fn f cs)=Fe cs)/\D.ids .np=[]/\(∀i,D.ids (.mv i)=[i])/\(∀i a,D.ids (.E8 i a)=[i])/\(∀i a b,D.ids (.Sn i a b)=[i])/\(∀i a b c,D.ids (.nr i a b c)=[i])/\D.ids .WX=[]/\
   Fe []=[]/\(∀d r,Fe (d::r)=D.ids d++Fe r)/\(∀cs t,AO.ids (.box cs t)=Fe cs)/\(∀t sz es,AO.ids (.arr t sz es)=[])/\(∀sz es,AO.ids (.Om sz es)=[])/\(∀l q,AO.ids (.iter l q)=[])/\(∀g cs,AO.ids (.Ew g cs)=[])/\(∀x,AO.ids (.Ik x)=[])/\(∀l,AO.ids (.mp l)=[])/\(∀t e sz k rows hole,AO.ids (.Fi t e sz k rows hole)=[])/\
   (∀(α:Type) (k:Nat) (x:α),Dq [] k x=[(k,x)])/\(∀(α:Type) (k':Nat) (x':α) (r:List (Nat×α)) (k:Nat) (x:α),Dq ((k',x')::r) k x=if k'=k then (k,x)::r else (k',x')::Dq r k x)/\base=1000000:=by
 refine ⟨?_,?_,?_,?_,?_,?_,?_,?_,?_,?_,?_,?_,?_,?_,?_,?_,?_,?_,?_,?_,?_,?_,?_,?_,?_,?_,?_,?_,?_,?_,?_,?_,?_,?_,?_,?_,?_,?_,?_,?_,?_,?_⟩<;>intros<;>first | rfl | simp only[D.ids,Fe,AO.ids]
theorem Cq{P:AK}{s:Bool}{ops rest:As}{k:Kt}{dst:Option Nat}{st:St}{h:Hp}{T:Aq}{f:AH}{ds:Ah}{b:Hp}{S:Prop}{a:Hp}{d:D}(e:C4 P f ds b λ h' r=>h'=a/\r=d)
   (g:fresh (dst.getD 0) h a/\O P s ops rest k (({st with hp:=merge T (dst.getD 0) h a}:St).put dst (d.GB (back T (dst.getD 0))))):Cc P s ops rest k dst st h T f ds b S:=GJ e (by rintro _ _ ⟨rfl,rfl⟩;exact g)
theorem Gq{P:AK}{l:As}{hR:Hp}{r:Al}{k:Kt}{e:Nat}{dst:Option Nat}{st:St}{h:Hp}{T:Aq}{f:AH}{ds:Ah}{b:Hp}{S:Prop}{a:Hp}{d:D}(g:C4 P f ds b λ h' x=>h'=a/\x=d)
   (i:fresh (dst.getD 0) h a/\Hd e (merge T (dst.getD 0) h a) hR/\G P l hR r k (({st with hp:=merge T (dst.getD 0) h a}:St).put dst (d.GB (back T (dst.getD 0))))):Gh P l hR r k e dst st h T f ds b S:=Aw1 g (by rintro _ _ ⟨rfl,rfl⟩;exact i)
theorem A8{p:Prop}(h:p:=by simp[KQ,get]):p:=h
theorem Hv(l)(at_)(n)(PZ:at_<1000000000000)(f:Bip n):
   C4 prog 14 [.ptr 1000000 0,iD n] [(1000000,.box (FB l at_))] λ h r=>h=[(1000000,.box (FB l (at_+1)))]/\r=iD (Vz l at_ n):=by
 refine Dw func14 rfl Aee (by simp[Tryz.f14]) ?_;have e:i64.wrap ((at_:Int)*7)=(at_:Int)*7:=by rw[C6]<;>omega
 have a:i64.wrap ((at_:Int)+1)=((at_+1:Nat):Int):=by rw[C6]<;>omega
 unfold FB;simp only[go_sem,e];refine Yu [(1000000,.box [.p (.sl (CT l)),.p (.int .i64 (at_:Nat))])] mixed (p:=[(0,0),(1,0),(2,0),(3,0),(4,0),(5,0),(6,0),(7,0),(8,0),(9,0)]) AX A8 ?_;simp only[go_sem,e,C1];refine D2 (λ b=>?_) (λ b=>?_)
 . have Dv:at_<l.length:=by simp at b;omega
   refine Yu [(1000000,.box [.p (.sl (CT l)),.p (.int .i64 (at_:Nat))])] mixed (p:=[(0,0),(1,0),(2,0),(3,0),(4,0),(5,0),(6,0),(7,0),(8,0),(9,0),(10,0)]) AX A8 ?_;simp only[go_sem,a,C1,Be,Fs l at_ Dv];refine ⟨AQ,GJ (Bhk _ _ f) ?_⟩;rintro g r ⟨rfl,rfl⟩;simp only[go_sem,a];simp[Vz,Dv]
 . simp only[go_sem,a];refine Cq (Bhk _ _ f) ?_;simp only[go_sem,a];have:¬at_<l.length:=by simp at b;omega
   simp[Vz,this]
structure Dc where
 word:Int
 line:Int
 names:Ai
 Bjr:Aa
 deriving DecidableEq
def Dc.d(x:Dc):D:= .agg [.p (.int .i64 x.word),.p (.int .i64 x.line),.p (.sl (Eg x.names)),.p (.sl (CT x.Bjr))]
structure Ln where
 num:Int
 fs:Ai
 deriving DecidableEq
def ln0:Ln:=⟨0,[]⟩
abbrev AB:=List Ln
def Kp(l:AB):Ae:=l.map λ x=>[.int .i64 x.num,.sl (Eg x.fs)]
theorem G0(l):(Kp l).length=l.length:=by simp[Kp]
theorem Bh9(l)(i)(h:i<l.length):(Kp l).getD i []=[.int .i64 (l.getD i ln0).num,.sl (Eg (l.getD i ln0).fs)]:=by simp[Kp,List.getD,h]
theorem QH(l)(x):Kp (l++[x])=Kp l++[[.int .i64 x.num,.sl (Eg x.fs)]]:=by simp[Kp]
theorem Aip(l)(n)(h:l.length<=n):(Kp l).take n=Kp l:=List.take_of_length_le (by simpa [Kp] using h)
def Ab5(l:List Dc):Ae:=l.map λ x=>[.int .i64 x.word,.int .i64 x.line,.sl (Eg x.names),.sl (CT x.Bjr)]
theorem TR(l):(Ab5 l).length=l.length:=by simp[Ab5]
theorem Aj0(l)(x):Ab5 (l++[x])=Ab5 l++[[.int .i64 x.word,.int .i64 x.line,.sl (Eg x.names),.sl (CT x.Bjr)]]:=by simp[Ab5]
def Rw(c:Int):Bool:=decide (97<=c/\c<=122)||decide (65<=c/\c<=90)
theorem Adc(c):C4 prog 160 [.p (.int .u8 c)] [] λ h r=>h=[]/\r=bD (Rw c):=by
 refine Dw func160 rfl Azf (by simp[Tryz.f160]) ?_;by_cases a:97<=c<;>by_cases h2:c<=122<;>by_cases b:65<=c<;>by_cases e:c<=90<;>(try omega)<;>
 . simp only[go_sem,a,h2,b,e];simp[Rw,a,h2,b,e]
def chB(c:Int):Bool:=Rw c||decide (48<=c/\c<=57)||decide (c=45)||decide (c=95)
def MJ(l:Ac):Bool:=match l with
 | []=>false
 | b::_=>decide (l.length<=12)&&Rw b.toNat&&l.all λ c=>chB c.toNat
theorem QU(c):chB c=(Rw c||(decide (48<=c)&&decide (c<=57))||decide (c=45)||decide (c=95)):=by simp[chB]
theorem A7{p:Prop}(h:p:=by simp[Le,LeE,KQ,get,JR,JI,ON,D.ids]):p:=h
theorem Ao3(l):C4 prog 108 [.p (.str l)] [] λ h r=>h=[]/\r=bD (MJ l):=by
 refine Dw func108 rfl Bak (by simp[Tryz.f108]) ?_;cases l with
 | nil=>
   simp only[go_sem];rfl
 | cons b l=>
   by_cases m:(12:Int)<((l.length+1:Nat):Int)
   . simp only[go_sem,m];have:¬l.length+1<=12:=AQ;simp[MJ,this]
   . simp only[go_sem,m,BS];refine ⟨AQ,GJ (Adc _) ?_⟩;rintro v r ⟨rfl,rfl⟩;simp only[go_sem,m];cases hb:Rw b.toNat
     . simp only[go_sem];simp[MJ,hb]
     . simp only[go_sem];refine Dm (λ i=>⟨[(0,.p (.str (b::l))),(3,.p (.int .i64 (i:Nat)))],[],46⟩) (λ i=>i<=l.length+1/\∀j,j<i->chB ((b::l).getD j 0).toNat=true) (λ i=>l.length+1 - i) 0 ⟨BO _,AT⟩
         (Wk.forget A7) ?_
       rintro i n ⟨z,q⟩ t;simp only[go_sem];refine D2 (λ h2=>?_) (λ h2=>?_)
       . have Dv:i<(b::l).length:=by simp at h2 ⊢;omega
         simp only[go_sem,Be];have s:=DG i AQ;generalize u:(((b::l).getD i 0).toNat:Int)=c;refine ⟨by simp at Dv;omega,GJ (Adc _) ?_⟩;rintro v r ⟨rfl,rfl⟩;have XM:chB c=false->MJ (b::l)=false:=by
           intro w;have:((b::l).all λ c=>chB c.toNat)=false:=by
             rw[Bool.eq_false_iff];intro o;have:=BB.1 o ((b::l).getD i 0) (by simp only[List.getD,Bp Dv,BP];exact Ca Dv);rw[u,w] at this;cases this
           simp only[MJ,this,Bool.and_false]
         have Aog:chB c=true->∀j,j<i+1->chB ((b::l).getD j 0).toNat=true:=by
           intro o j e;rcases BK.1 e with e | rfl
           . exact q j e
           . rw[u];exact o
         have hle:i+1<=l.length+1:=by simp only[Br] at Dv;omega
         cases a:Rw c
         . by_cases NN:c<48<;>by_cases g:57<c<;>by_cases f:c=45<;>by_cases k:c=95<;>(try omega)<;>
           . simp only[go_sem,a,NN,g,f,k,s];first
               | exact ⟨trivial,by rw[XM (by simp[QU,a];omega)]⟩
               | exact ⟨rfl,by rw[XM (by simp[QU,a];omega)]⟩
               | (rw[XM (by simp[QU,a];omega)])
               | exact t (i+1) _ ⟨hle,Aog (by simp[QU,a];omega)⟩ AQ (Wk.forget A7)
         . simp only[go_sem,a,s];exact t (i+1) _ ⟨hle,Aog (by simp[QU,a])⟩ AQ (Wk.forget A7)
       . simp only[go_sem];have HP:i=l.length+1:=by simp at h2;omega
         have Fx:((b::l).all λ c=>chB c.toNat)=true:=by
           refine BB.2 λ x hx=>?_;obtain ⟨j,e,rfl⟩:=Cg.1 hx;have:=q j (by simp at e;omega)
           simpa only[List.getD,List.getElem?_eq_getElem e,Option.getD_some] using this
         have y:l.length+1<=12:=AQ;simp only[MJ,Fx,hb,Br,y,Cy,Bool.and_self,and_self]
def Ss(s p:Ac):Bool:=decide (p.length<=s.length)&&decide (s.take p.length=p)
theorem Al9(s p):C4 prog 201 [.p (.str s),.p (.str p)] [] λ h r=>h=[]/\r=bD (Ss s p):=by
 refine Dw func201 rfl Ayf (by simp[Tryz.f201]) ?_;by_cases a:(p.length:Int)<=s.length
 . simp only[go_sem,a,Be];refine ⟨AQ,?_⟩;have h2:p.length<=s.length:=AQ;simp[Ss,h2]
 . simp only[go_sem,a];have h2:¬p.length<=s.length:=AQ;simp[Ss,h2]
theorem Agv(s p):C4 prog 158 [.p (.str s),.p (.str p)] [] λ h r=>h=[]/\r= .Em [.p (.str (if Ss s p then s.drop p.length else s)),bD (Ss s p)]:=by
 refine Dw func158 rfl Azg (by simp[Tryz.f158]) ?_;simp only[go_sem];refine Cq (Al9 s p) ?_;simp only[go_sem];cases a:Ss s p
 . simp only[go_sem];refine DL ?_;simp only[go_sem];try simp
 . simp only[go_sem,Be];have b:p.length<=s.length:=by
     simp only[Ss,BA,BM] at a;exact a.1
   refine ⟨AQ,DL ?_⟩;simp only[go_sem];try simp
theorem Alv(s p):C4 prog 104 [.p (.str s),.p (.str p)] [] λ h r=>h=[]/\r= .Em [.p (.str (if Ss s p then s.drop p.length else s)),bD (Ss s p)]:=by
 refine Dw func104 rfl Ban (by simp[Tryz.f104]) ?_;simp only[go_sem];refine Cq (Agv s p) ?_;simp only[go_sem];refine DL ?_;simp only[go_sem]
def GC(l:Ac):Int:=l.foldl (λ n c=>10*n+((c.toNat:Int) - 48)) 0
def T0(c:Int):Bool:=decide (48<=c)&&decide (c<=57)
def TY(l:Ac):Bool:=l.all λ c=>T0 c.toNat
def numOf(neg:Bool)(l:Ac):Int×Bool:=
 match l with
 | []=>(0,false)
 | b::r=>if 4<r.length+1∨((b.toNat:Int)=48/\(neg=true∨1<r.length+1)) then (0,false)
   else if TY (b::r) then (if neg then 0 - GC (b::r) else GC (b::r),true) else (0,false)
def GP(s:Ac):Int×Bool:=if Ss s [45] then numOf true (s.drop 1) else numOf false s
theorem Ug(l:Ac)(i)(h:i<l.length):GC (l.take (i+1))=10*GC (l.take i)+(((l.getD i 0).toNat:Int) - 48):=by
 unfold GC;rw[Cp h,List.foldl_append];simp[List.getD,h]
theorem Bj6(l:Ac)(h:∀c∈l,48<=c.toNat/\c.toNat<=57):∀(i:Nat),i<=l.length->i<=4->0<=GC (l.take i)/\GC (l.take i)<10 ^ i:=by
 intro i
 induction i with
 | zero=>intro _ _;simp[GC]
 | succ i a=>
   intro b h2;have e:=a AQ AQ;rw[Ug l i AQ];have f:=h (l.getD i 0) (by simp only[List.getD,Bp (show i<l.length by omega),BP];exact Ca _);have:(10:Int) ^ (i+1)=10*10 ^ i:=by rw[Int.pow_succ];omega
   omega
theorem p10(i)(h:i<=4):(10:Int) ^ i<=10000:=by
 rcases i with _ | _ | _ | _ | _ | i<;>simp at*<;>omega
theorem Aso(s):C4 prog 55 [.p (.str s)] [] λ h r=>h=[]/\r= .Em [iD (GP s).1,bD (GP s).2]:=by
 refine Dw func55 rfl Bg9 (by simp[Tryz.f55]) ?_;simp only[go_sem];refine Cq (Alv s [45]) ?_;simp only[go_sem];have key:GP s=numOf (Ss s [45]) (if Ss s [45]=true then List.drop 1 s else s):=by
   unfold GP;cases Ss s [45]<;>rfl
 rw[key];clear key;generalize Ss s [45]=neg;generalize (if neg=true then List.drop 1 s else s)=l;cases l with
 | nil=>
   simp only[go_sem];refine DL ?_;simp only[go_sem];try simp[numOf]
 | cons b l=>
   by_cases g:(4:Int)<((l.length+1:Nat):Int)
   . simp only[go_sem,g];refine DL ?_;simp only[go_sem];have:4<l.length+1:=AQ;try simp[numOf,this]
   . have q:¬4<l.length+1:=AQ;have hlen:(b::l).length<=4:=by simp only[Br];omega
     have bad:∀c:Int,(∃i,i<(b::l).length/\(((b::l).getD i 0).toNat:Int)=c)->T0 c=false->TY (b::l)=false:=by
       rintro c ⟨i,t,B⟩ E;rw[Bool.eq_false_iff];intro K;have:=BB.1 K ((b::l).getD i 0) (by simp only[List.getD,Bp t,BP];exact Ca t);simp only[B,E] at this;cases this
     by_cases Nz:(b.toNat:Int)=48/\(neg=true∨1<l.length+1)
     . obtain ⟨NN,y⟩:=Nz;have O1:numOf neg (b::l)=(0,false):=by simp only[numOf,NN,y,and_self,or_true,Cf]
       cases neg
       . have o:(1:Int)<((l.length+1:Nat):Int):=by simp at y;omega
         simp only[go_sem,g,BS,NN,o];refine ⟨AQ,DL ?_⟩;simp only[go_sem,O1]
       . simp only[go_sem,g,BS,NN];refine ⟨AQ,DL ?_⟩;simp only[go_sem,O1]
     . have O1:numOf neg (b::l)=if TY (b::l) then (if neg then 0 - GC (b::l) else GC (b::l),true) else (0,false):=by
         simp only[numOf,q,Nz,or_self,if_false]
       have Bep:((b.toNat:Int)≠48)∨((b.toNat:Int)=48/\neg=false/\¬(1:Int)<((l.length+1:Nat):Int)):=by
         by_cases h:(b.toNat:Int)=48
         . right;refine ⟨h,?_,?_⟩
           . cases neg
             . rfl
             . exact (Nz ⟨h,.inl rfl⟩).elim
           . intro o;exact Nz ⟨h,.inr AQ⟩
         . exact .inl h
       rcases Bep with NN | ⟨NN,e,o⟩
       all_goals
         have XI:=O1;first | rw[e] at XI | skip
         first
           | simp only[go_sem,g,BS,NN,o,e]
           | simp only[go_sem,g,BS,NN]
         refine ⟨AQ,Bix rfl ti9 Bo0 ti5 rfl ?_⟩;simp only[go_sem,J8];refine Dm (λ i=>⟨[(35,.p (.sl (Gz (b::l)))),(36,.p (.int .i64 ((l.length+1:Nat):Int))),(37,.p (.int .i64 (i:Nat))),(6,.p (.int .i64 (GC ((b::l).take i)))),(5,.p (.bool neg))],[],58⟩) (λ i=>i<=l.length+1/\0<=GC ((b::l).take i)/\GC ((b::l).take i)<10 ^ i/\∀j,j<i->T0 ((b::l).getD j 0).toNat=true) (λ i=>l.length+1 - i) 0 ⟨BO _,by simp[GC],by simp[GC],AT⟩
           (Wk.forget (by first | (simp[Le,LeE,KQ,get,JR,JI,ON,D.ids,GC];done) | simp[Le,LeE,KQ,get,JR,JI,ON,D.ids,GC,e])) ?_
         rintro i n ⟨t,u,m,w⟩ Q;simp only[go_sem,J8];refine D2 (λ h2=>?_) (λ h2=>?_)
         . have Dv:i<(b::l).length:=by simp at h2 ⊢;omega
           simp only[go_sem,J8,Be,Bhd (b::l) i Dv];have N:=DG i AQ;have z:=Ug (b::l) i Dv;generalize v:(((b::l).getD i 0).toNat:Int)=c at z;refine ⟨by simp only[Br] at Dv;omega,?_⟩;have hle:i+1<=l.length+1:=by simp only[Br] at Dv;omega
           have H:(10:Int) ^ i<=10000:=p10 i AQ;have I:(10:Int) ^ (i+1)=10*10 ^ i:=by rw[Int.pow_succ];omega
           by_cases Sr:c<48
           . simp only[go_sem,Sr];refine DL ?_;simp only[go_sem,XI,bad c ⟨i,Dv,v⟩ (by simp[T0];omega)];try simp
           . by_cases JT:57<c
             . simp only[go_sem,Sr,JT];refine DL ?_;simp only[go_sem,XI,bad c ⟨i,Dv,v⟩ (by simp[T0];omega)];try simp
             . have R:i64.wrap (10*GC ((b::l).take i))=10*GC ((b::l).take i):=by rw[C6]<;>omega
               have S:IntKind.u8.wrap (c - 48)=c - 48:=by rw[IntKind.wrap_u8];omega
               have T:i64.wrap (c - 48)=c - 48:=by rw[C6]<;>omega
               have U:i64.wrap (10*GC ((b::l).take i)+(c - 48))=GC ((b::l).take (i+1)):=by rw[z,C6]<;>omega
               simp only[go_sem,Sr,JT,R,S,T,U,N];refine Q (i+1) _ ⟨hle,AQ,AQ,λ j k=>?_⟩ AQ (Wk.forget A7);rcases BK.1 k with k | rfl
               . exact w j k
               . rw[v];simp[T0];omega
         . simp only[go_sem];have HP:i=(b::l).length:=by simp at h2 ⊢;omega
           have Fx:TY (b::l)=true:=by
             refine BB.2 λ x hx=>?_;obtain ⟨j,k,rfl⟩:=Cg.1 hx;have:=w j AQ
             simpa only[List.getD,List.getElem?_eq_getElem k,Option.getD_some] using this
           have H:(10:Int) ^ i<=10000:=p10 i AQ;rw[HP,BE] at u m;rw[HP,BE];have V:i64.wrap (0 - GC (b::l))=0 - GC (b::l):=by rw[<-HP] at m;rw[C6]<;>omega
           refine D2 (λ f=>?_) (λ f=>?_)
           . simp only[go_sem,V];refine DL ?_;have a:=O1;rw[f] at a;first | (simp only[go_sem,a,Fx,f];done) | (simp only[go_sem,a,Fx,f];simp;done) | (simp[e] at f;done)
           . simp only[go_sem];refine DL ?_;have a:=O1;rw[f] at a;simp only[go_sem,a,Fx,f];try simp
structure Blk where
 name:Ac
 x:Int
 y:Int
 deriving DecidableEq
structure Su where
 name:Ac
 Fw:Bool
 PK:Int
 out:Int
 Ei:Int
 base:Int
 deriving DecidableEq
abbrev Ab:=List (List Int)
structure Nt where
 blocks:List Blk
 next:Ab
 CV:List Su
 C8:Aa
 cq:Int
 ca:Int
 cd:Int
 cp:Int
 deriving DecidableEq
def T8:Blk:=⟨[],0,0⟩
def E3:Su:=⟨[],false,0,0,0,0⟩
def FM(l:List Blk):Ae:=l.map λ b=>[.str b.name,.int .i64 b.x,.int .i64 b.y]
def DA(l:Ab):Ae:=l.map λ r=>[.sl (CT r)]
def Gy(l:List Su):Ae:=l.map λ s=>[.str s.name,.bool s.Fw,.int .i64 s.PK,.int .i64 s.out,.int .i64 s.Ei,.int .i64 s.base]
theorem DB(l):(FM l).length=l.length:=by simp[FM]
theorem Du(l):(DA l).length=l.length:=by simp[DA]
theorem Ea(l):(Gy l).length=l.length:=by simp[Gy]
theorem Apk(l)(i)(h:i<l.length):(FM l).getD i []=[.str (l.getD i T8).name,.int .i64 (l.getD i T8).x,.int .i64 (l.getD i T8).y]:=by simp[FM,List.getD,h]
theorem QL(l)(i)(h:i<l.length):(DA l).getD i []=[.sl (CT (l.getD i []))]:=by simp[DA,List.getD,h]
theorem Ov(l)(i)(h:i<l.length):(Gy l).getD i []=[.str (l.getD i E3).name,.bool (l.getD i E3).Fw,.int .i64 (l.getD i E3).PK,.int .i64 (l.getD i E3).out,.int .i64 (l.getD i E3).Ei,.int .i64 (l.getD i E3).base]:=by simp[Gy,List.getD,h]
theorem Bb0(l)(b):FM (l++[b])=FM l++[[.str b.name,.int .i64 b.x,.int .i64 b.y]]:=by simp[FM]
theorem Baz(l)(s):Gy (l++[s])=Gy l++[[.str s.name,.bool s.Fw,.int .i64 s.PK,.int .i64 s.out,.int .i64 s.Ei,.int .i64 s.base]]:=by simp[Gy]
theorem Aiq(l)(n)(h:l.length<=n):(FM l).take n=FM l:=List.take_of_length_le (by simpa [FM] using h)
theorem Aiu(l)(n)(h:l.length<=n):(DA l).take n=DA l:=List.take_of_length_le (by simpa [DA] using h)
theorem Ain(l)(n)(h:l.length<=n):(Gy l).take n=Gy l:=List.take_of_length_le (by simpa [Gy] using h)
theorem Apo(l)(i)(r):DA (l.set i r)=(DA l).set i [.sl (CT r)]:=by simp[DA,BI]
abbrev Ad:=List Bool
def Dn(l:Ad):Ae:=l.map λ b=>[.bool b]
def Nt.cs(n:Nt):Ah:=[.p (.sl (FM n.blocks)),.p (.sl (DA n.next)),.p (.sl (Gy n.CV)),.p (.sl (CT n.C8)),.p (.int .i64 n.cq),.p (.int .i64 n.ca),.p (.int .i64 n.cd),.p (.int .i64 n.cp)]
def Tt:Aa->Int->Aa
 | [],x=>[x]
 | y::r,x=>if x<y then x::y::r else y::Tt r x
theorem Bdu(l)(x):(Tt l x).length=l.length+1:=by
 induction l with
 | nil=>rfl
 | cons y r a=>unfold Tt;split<;>simp[a]
theorem Adi(l)(x z):z∈Tt l x↔z=x∨z∈l:=by
 induction l with
 | nil=>simp[Tt]
 | cons y r a=>
   unfold Tt;split
   . simp
   . simp only[BX,a];constructor<;>(rintro (h | h | h)<;>simp[h])
theorem Bdv(l)(x)(h:l.Pairwise (· < ·))(hx:x∉l):(Tt l x).Pairwise (· < ·):=by
 induction l with
 | nil=>simp[Tt]
 | cons y r g=>
   rw[List.pairwise_cons] at h;unfold Tt;split
   . rename_i b;rw[List.pairwise_cons];refine ⟨λ z a=>?_,List.pairwise_cons.2 h⟩;rcases BX.1 a with rfl | a
     . exact b
     . have:=h.1 z a;omega
   . rename_i b;have EH:x≠y:=λ e=>hx (by simp[e]);rw[List.pairwise_cons];refine ⟨λ z a=>?_,g h.2 (λ f=>hx (List.mem_cons_of_mem _ f))⟩;rcases (Adi r x z).1 a with rfl | a
     . omega
     . exact h.1 z a
theorem getD_eq{α:Type}{l:List α}{k}{x}(h:k<l.length):l.getD k x=l[k]:=by simp[List.getD,h]
theorem QE(l)(i)(h:i<l.length):(Dn l).getD i []=[.bool (l.getD i false)]:=by simp[Dn,List.getD,h]
theorem Hh{α:Type}(l:List α)(i)(x:α)(h:i<l.length):l.take (i+1)=l.take i++[l.getD i x]:=by
 rw[List.take_add_one,List.getD,Bp h];rfl
theorem Aem(l)(i):(CT l).take i=CT (l.take i):=by simp[CT,CE]
theorem Bm0:∀(a b:Aa),a.Nodup->(∀x∈a,x∈b)->a.length<=b.length
 | [],_,_,_=>AT
 | x::a,b,f,g=>by
   rw[List.nodup_cons] at f;have hx:=g x AT;have j:=Bm0 a (b.erase x) f.2 (λ y i=>(List.mem_erase_of_ne (λ e=>f.1 (by rw[<-e];exact i))).2 (g y (by simp[i])));rw[List.length_erase_of_mem hx] at j;have:=List.length_pos_of_mem hx;simp only[Br];omega
theorem Ad5(s):C4 prog 59 [.p (.str s)] [] λ h r=>h=[]/\r= .Em [iD (GP s).1,bD (GP s).2]:=by
 refine Dw func59 rfl Bg5 (by simp[Tryz.f59]) ?_;cases s with
 | nil=>
   simp only[go_sem];refine DL ?_;simp only[go_sem];try simp[GP,Ss,numOf]
 | cons c r=>
 by_cases g:(c.toNat:Int)=45
 . have o:List.drop 1 (List.take ((r.length+1:Nat):Int).toNat (c::r))=r:=by
     rw[Be,show r.length+1=(c::r).length from rfl,BE];rfl
   have v:GP (c::r)=numOf true r:=by
     have:c=45:=UInt8.toNat_inj.1 AW;subst this;simp[GP,Ss]
   rw[v];simp only[go_sem,g,BS];refine ⟨AQ,AQ,?_⟩;simp only[go_sem,o];cases r with
   | nil=>
     simp only[go_sem];refine DL ?_;simp only[go_sem];try simp[numOf]
   | cons b l=>
     by_cases k:(4:Int)<((l.length+1:Nat):Int)
     . simp only[go_sem,k];refine DL ?_;simp only[go_sem];have:4<l.length+1:=AQ;try simp[numOf,this]
     . have m:¬4<l.length+1:=AQ;have hlen:(b::l).length<=4:=by simp only[Br];omega
       have bad:∀c:Int,(∃i,i<(b::l).length/\(((b::l).getD i 0).toNat:Int)=c)->T0 c=false->TY (b::l)=false:=by
         rintro c ⟨i,q,g⟩ z;rw[Bool.eq_false_iff];intro H;have:=BB.1 H ((b::l).getD i 0) (by simp only[List.getD,Bp q,BP];exact Ca q);simp only[g,z] at this;cases this
       by_cases NN:(b.toNat:Int)=48
       . have O1:numOf true (b::l)=(0,false):=by simp only[numOf,NN,true_or,and_self,or_true,Cf]
         by_cases y:(1:Int)<((l.length+1:Nat):Int);all_goals
           simp only[go_sem,k,o,BS,NN,y];refine ⟨AQ,DL ?_⟩;simp only[go_sem,O1]
       . have O1:numOf true (b::l)=if TY (b::l) then (if true then 0 - GC (b::l) else GC (b::l),true) else (0,false):=by
           simp only[numOf,m,NN,false_and,or_self,if_false]
         . have XI:=O1;simp only[go_sem,k,o,BS,NN];refine ⟨AQ,?_⟩;(try simp only[go_sem]);refine Dm (λ i=>⟨[(0,.p (.str (b::l))),(6,.p (.int .i64 (i:Nat))),(5,.p (.int .i64 (GC ((b::l).take i)))),(4,.p (.bool true))],[],65⟩) (λ i=>i<=l.length+1/\0<=GC ((b::l).take i)/\GC ((b::l).take i)<10 ^ i/\∀j,j<i->T0 ((b::l).getD j 0).toNat=true) (λ i=>l.length+1 - i) 0 ⟨BO _,by simp[GC],by simp[GC],AT⟩
             (Wk.forget (by first | (simp[Le,LeE,KQ,get,JR,JI,ON,D.ids,GC];done) | simp[Le,LeE,KQ,get,JR,JI,ON,D.ids,GC,hng])) ?_
           rintro i n ⟨q,t,f,u⟩ K;simp only[go_sem];refine D2 (λ h2=>?_) (λ h2=>?_)
           . have Dv:i<(b::l).length:=by simp at h2 ⊢;omega
             simp only[go_sem];have I:=DG i AQ;have w:=Ug (b::l) i Dv;generalize a:(((b::l).getD i 0).toNat:Int)=c at w;have hle:i+1<=l.length+1:=by simp only[Br] at Dv;omega
             have B:(10:Int) ^ i<=10000:=p10 i AQ;have E:(10:Int) ^ (i+1)=10*10 ^ i:=by rw[Int.pow_succ];omega
             have Ol:(i:Int)<((l.length+1:Nat):Int):=by simp only[Br] at Dv;omega
             have FC:(0:Int)<=(i:Int):=AQ;by_cases Sr:c<48
             . simp only[go_sem,Be,Ol,FC,a,Sr];refine DL ?_;simp only[go_sem,XI,bad c ⟨i,Dv,a⟩ (by simp[T0];omega)];try simp
             . by_cases JT:57<c
               . simp only[go_sem,Be,Ol,FC,a,Sr,JT];refine DL ?_;simp only[go_sem,XI,bad c ⟨i,Dv,a⟩ (by simp[T0];omega)];try simp
               . have N:i64.wrap (10*GC ((b::l).take i))=10*GC ((b::l).take i):=by rw[C6]<;>omega
                 have Q:IntKind.u8.wrap (c - 48)=c - 48:=by rw[IntKind.wrap_u8];omega
                 have R:i64.wrap (c - 48)=c - 48:=by rw[C6]<;>omega
                 have S:i64.wrap (10*GC ((b::l).take i)+(c - 48))=GC ((b::l).take (i+1)):=by rw[w,C6]<;>omega
                 simp only[go_sem,Be,Ol,FC,a,Sr,JT,N,Q,R,S,I];refine K (i+1) _ ⟨hle,AQ,AQ,λ j e=>?_⟩ AQ (Wk.forget A7);rcases BK.1 e with e | rfl
                 . exact u j e
                 . rw[a];simp[T0];omega
           . simp only[go_sem];have HP:i=(b::l).length:=by simp at h2 ⊢;omega
             have Fx:TY (b::l)=true:=by
               refine BB.2 λ x hx=>?_;obtain ⟨j,e,rfl⟩:=Cg.1 hx;have:=u j AQ
               simpa only[List.getD,List.getElem?_eq_getElem e,Option.getD_some] using this
             have B:(10:Int) ^ i<=10000:=p10 i AQ;rw[HP,BE] at t f;rw[HP,BE];have T:i64.wrap (0 - GC (b::l))=0 - GC (b::l):=by rw[<-HP] at f;rw[C6]<;>omega
             (try simp only[go_sem,T]);refine DL ?_;simp only[go_sem,O1,Fx];try simp
 . have v:GP (c::r)=numOf false (c::r):=by
     have:Ss (c::r) [45]=false:=by
       simp[Ss];intro h;subst h;exact g rfl
     simp[GP,this]
   rw[v];simp only[go_sem,g,BS];refine ⟨AQ,?_⟩;try simp only[go_sem,g,BS]
   revert g v
   generalize c=b;generalize r=l;intro g v;by_cases k:(4:Int)<((l.length+1:Nat):Int)
   . simp only[go_sem,k];refine DL ?_;simp only[go_sem];have:4<l.length+1:=AQ;try simp[numOf,this]
   . have m:¬4<l.length+1:=AQ;have hlen:(b::l).length<=4:=by simp only[Br];omega
     have bad:∀c:Int,(∃i,i<(b::l).length/\(((b::l).getD i 0).toNat:Int)=c)->T0 c=false->TY (b::l)=false:=by
       rintro c ⟨i,q,g⟩ z;rw[Bool.eq_false_iff];intro H;have:=BB.1 H ((b::l).getD i 0) (by simp only[List.getD,Bp q,BP];exact Ca q);simp only[g,z] at this;cases this
     by_cases y:(1:Int)<((l.length+1:Nat):Int)<;>by_cases NN:(b.toNat:Int)=48
     . have O1:numOf false (b::l)=(0,false):=by
         have:1<l.length+1:=AQ;simp only[numOf,NN,this,and_self,or_true,Cf]
       simp only[go_sem,k,BS,NN,y];refine ⟨AQ,DL ?_⟩;simp only[go_sem,O1]
     all_goals
       have O1:numOf false (b::l)=if TY (b::l) then (if false then 0 - GC (b::l) else GC (b::l),true) else (0,false):=by
         have:¬((b.toNat:Int)=48/\(false=true∨1<l.length+1)):=by
           rintro ⟨h,h2 | h2⟩
           . cases h2
           . first | exact NN h | omega
         simp only[numOf,m,this,or_self,if_false]
       . have XI:=O1;simp only[go_sem,k,BS,NN,y];refine ⟨AQ,?_⟩;(try simp only[go_sem]);refine Dm (λ i=>⟨[(0,.p (.str (b::l))),(6,.p (.int .i64 (i:Nat))),(5,.p (.int .i64 (GC ((b::l).take i)))),(4,.p (.bool false))],[],65⟩) (λ i=>i<=l.length+1/\0<=GC ((b::l).take i)/\GC ((b::l).take i)<10 ^ i/\∀j,j<i->T0 ((b::l).getD j 0).toNat=true) (λ i=>l.length+1 - i) 0 ⟨BO _,by simp[GC],by simp[GC],AT⟩
           (Wk.forget (by first | (simp[Le,LeE,KQ,get,JR,JI,ON,D.ids,GC];done) | simp[Le,LeE,KQ,get,JR,JI,ON,D.ids,GC,hng])) ?_
         rintro i n ⟨q,t,f,u⟩ K;simp only[go_sem];refine D2 (λ h2=>?_) (λ h2=>?_)
         . have Dv:i<(b::l).length:=by simp at h2 ⊢;omega
           simp only[go_sem];have I:=DG i AQ;have w:=Ug (b::l) i Dv;generalize a:(((b::l).getD i 0).toNat:Int)=c at w;have hle:i+1<=l.length+1:=by simp only[Br] at Dv;omega
           have B:(10:Int) ^ i<=10000:=p10 i AQ;have E:(10:Int) ^ (i+1)=10*10 ^ i:=by rw[Int.pow_succ];omega
           have Ol:(i:Int)<((l.length+1:Nat):Int):=by simp only[Br] at Dv;omega
           have FC:(0:Int)<=(i:Int):=AQ;by_cases Sr:c<48
           . simp only[go_sem,Be,Ol,FC,a,Sr];refine DL ?_;simp only[go_sem,XI,bad c ⟨i,Dv,a⟩ (by simp[T0];omega)];try simp
           . by_cases JT:57<c
             . simp only[go_sem,Be,Ol,FC,a,Sr,JT];refine DL ?_;simp only[go_sem,XI,bad c ⟨i,Dv,a⟩ (by simp[T0];omega)];try simp
             . have N:i64.wrap (10*GC ((b::l).take i))=10*GC ((b::l).take i):=by rw[C6]<;>omega
               have Q:IntKind.u8.wrap (c - 48)=c - 48:=by rw[IntKind.wrap_u8];omega
               have R:i64.wrap (c - 48)=c - 48:=by rw[C6]<;>omega
               have S:i64.wrap (10*GC ((b::l).take i)+(c - 48))=GC ((b::l).take (i+1)):=by rw[w,C6]<;>omega
               simp only[go_sem,Be,Ol,FC,a,Sr,JT,N,Q,R,S,I];refine K (i+1) _ ⟨hle,AQ,AQ,λ j e=>?_⟩ AQ (Wk.forget A7);rcases BK.1 e with e | rfl
               . exact u j e
               . rw[a];simp[T0];omega
         . simp only[go_sem];have HP:i=(b::l).length:=by simp at h2 ⊢;omega
           have Fx:TY (b::l)=true:=by
             refine BB.2 λ x hx=>?_;obtain ⟨j,e,rfl⟩:=Cg.1 hx;have:=u j AQ
             simpa only[List.getD,List.getElem?_eq_getElem e,Option.getD_some] using this
           have B:(10:Int) ^ i<=10000:=p10 i AQ;rw[HP,BE] at t f;rw[HP,BE];have T:i64.wrap (0 - GC (b::l))=0 - GC (b::l):=by rw[<-HP] at f;rw[C6]<;>omega
           (try simp only[go_sem]);refine DL ?_;simp only[go_sem,O1,Fx];try simp
end Go.Am
end
