/- Texts of this proof, what it rests on, merged: part E. -/
import Derived.Test.YtlfbkkljgighkaaGreatDoorProg
import Derived.KernelRfl
import Derived.Test.YtlfbkkljgighkaaGreatDoorSkD
noncomputable section
namespace Go.Am
open Go Go.Proofs
open Go.IntKind (i64)
open Tryz
set_option maxRecDepth 100000
set_option linter.unusedVariables false
set_option linter.unusedSimpArgs false
set_option maxHeartbeats 2000000
theorem AY{p:Prop}(h:p:=by kernel_rfl):p:=h
theorem ti2:Dz prog 2=some ⟨1,8,.int .i64,.p (.int .i64 0)⟩:=AY
theorem ti3:Dz prog 3=some ⟨1,8,.int .i64,.p (.int .i64 0)⟩:=AY
theorem ti4:Dz prog 4=some ⟨1,1,.bool,.p (.bool false)⟩:=AY
theorem ti5:Dz prog 5=some ⟨1,1,.int .u8,.p (.int .u8 0)⟩:=AY
theorem ti9:Dz prog 9=some ⟨1,16,.string,.p (.str [])⟩:=AY
theorem Bxs:Dz prog 22=some ⟨1,24,.slice 49,.cl []⟩:=AY
theorem Bnb:Dz prog 23=some ⟨1,24,.slice 3,.cl []⟩:=AY
theorem Bxr:Dz prog 26=some ⟨1,24,.slice 9,.cl []⟩:=AY
theorem Bxq:Dz prog 27=some ⟨1,24,.slice 53,.cl []⟩:=AY
theorem Bqm:Dz prog 28=some ⟨1,24,.slice 23,.cl []⟩:=AY
theorem Bxp:Dz prog 29=some ⟨1,24,.slice 57,.cl []⟩:=AY
theorem Bxo:Dz prog 31=some ⟨4,32,.struct [(0,3),(1,3),(2,3),(3,3)],.agg [.p (.int .i64 0),.p (.int .i64 0),.p (.int .i64 0),.p (.int .i64 0)]⟩:=AY
theorem Bxn:Dz prog 33=some ⟨8,128,.struct [(0,27),(1,28),(2,29),(3,23),(4,31)],.agg [.cl [],.cl [],.cl [],.cl [],.p (.int .i64 0),.p (.int .i64 0),.p (.int .i64 0),.p (.int .i64 0)]⟩:=AY
theorem Bxm:Dz prog 37=some ⟨2,32,.struct [(0,23),(1,3)],.agg [.cl [],.p (.int .i64 0)]⟩:=AY
theorem Bxl:Dz prog 49=some ⟨4,40,.struct [(0,3),(1,3),(2,3),(3,9)],.agg [.p (.int .i64 0),.p (.int .i64 0),.p (.int .i64 0),.p (.str [])]⟩:=AY
theorem Bzy:Bef prog 49=some [.int,.int,.int,.str]:=AY
theorem Bxk:Dz prog 53=some ⟨3,32,.struct [(0,9),(1,3),(2,3)],.agg [.p (.str []),.p (.int .i64 0),.p (.int .i64 0)]⟩:=AY
theorem Bxj:Dz prog 57=some ⟨6,56,.struct [(0,9),(1,4),(2,3),(3,3),(4,3),(5,3)],.agg [.p (.str []),.p (.bool false),.p (.int .i64 0),.p (.int .i64 0),.p (.int .i64 0),.p (.int .i64 0)]⟩:=AY
theorem Bxi:Dz prog 59=some ⟨4,48,.struct [(0,3),(1,23),(2,3),(3,3)],.agg [.p (.int .i64 0),.cl [],.p (.int .i64 0),.p (.int .i64 0)]⟩:=AY
theorem Bxh:Dz prog 64=some ⟨2,48,.struct [(0,23),(1,28)],.agg [.cl [],.cl []]⟩:=AY
theorem Bxg:Dz prog 65=some ⟨1,24,.slice 4,.cl []⟩:=AY
theorem Bxf:Dz prog 67=some ⟨3,72,.struct [(0,65),(1,23),(2,23)],.agg [.cl [],.cl [],.cl []]⟩:=AY
theorem Bxe:Dz prog 68=some ⟨1,24,.slice 171,.cl []⟩:=AY
theorem Bxd:Dz prog 69=some ⟨1,24,.slice 229,.cl []⟩:=AY
theorem Bxc:Dz prog 71=some ⟨8,176,.struct [(0,64),(2,67),(5,68),(6,69),(7,4)],.agg [.cl [],.cl [],.cl [],.cl [],.cl [],.cl [],.cl [],.p (.bool false)]⟩:=AY
theorem Bxb:Dz prog 72=some ⟨1,24,.slice 118,.cl []⟩:=AY
theorem Bxa:Dz prog 73=some ⟨1,24,.slice 121,.cl []⟩:=AY
theorem Bx9:Dz prog 74=some ⟨1,24,.slice 134,.cl []⟩:=AY
theorem Bx8:Dz prog 76=some ⟨12,272,.struct [(0,71),(8,72),(9,73),(10,74),(11,74)],.agg [.cl [],.cl [],.cl [],.cl [],.cl [],.cl [],.cl [],.p (.bool false),.cl [],.cl [],.cl [],.cl []]⟩:=AY
theorem Bx7:Dz prog 84=some ⟨2,16,.struct [(0,3),(1,3)],.agg [.p (.int .i64 0),.p (.int .i64 0)]⟩:=AY
theorem Bx6:Dz prog 85=some ⟨1,24,.slice 242,.cl []⟩:=AY
theorem Bx5:Dz prog 88=some ⟨1,24,.slice 92,.cl []⟩:=AY
theorem Bx4:Dz prog 92=some ⟨2,32,.struct [(0,3),(1,26)],.agg [.p (.int .i64 0),.cl []]⟩:=AY
theorem Bna:Dz prog 96=some ⟨1,24,.slice 5,.cl []⟩:=AY
theorem Bqk:Dz prog 98=some ⟨2,32,.struct [(0,95),(1,96)],.agg [.np,.cl []]⟩:=AY
theorem Br7:Dz prog 118=some ⟨4,24,.struct [(0,3),(1,3),(2,4),(3,4)],.agg [.p (.int .i64 0),.p (.int .i64 0),.p (.bool false),.p (.bool false)]⟩:=AY
theorem Br6:Dz prog 119=some ⟨1,8,.int .u64,.p (.int .u64 0)⟩:=AY
theorem Br5:Dz prog 121=some ⟨5,40,.struct [(0,119),(1,3),(2,4),(3,3),(4,3)],.agg [.p (.int .u64 0),.p (.int .i64 0),.p (.bool false),.p (.int .i64 0),.p (.int .i64 0)]⟩:=AY
theorem Br4:Dz prog 123=some ⟨1,24,.slice 127,.cl []⟩:=AY
theorem Br3:Dz prog 127=some ⟨3,24,.struct [(0,3),(1,3),(2,3)],.agg [.p (.int .i64 0),.p (.int .i64 0),.p (.int .i64 0)]⟩:=AY
theorem Br2:Dz prog 131=some ⟨21,424,.struct [(0,33),(8,76),(20,85)],.agg [.cl [],.cl [],.cl [],.cl [],.p (.int .i64 0),.p (.int .i64 0),.p (.int .i64 0),.p (.int .i64 0),.cl [],.cl [],.cl [],.cl [],.cl [],.cl [],.cl [],.p (.bool false),.cl [],.cl [],.cl [],.cl [],.cl []]⟩:=AY
theorem Br1:Dz prog 134=some ⟨1,24,.slice 178,.cl []⟩:=AY
theorem Br0:Dz prog 135=some ⟨1,24,.slice 205,.cl []⟩:=AY
theorem Bqz:Dz prog 137=some ⟨5,120,.struct [(0,134),(1,85),(2,135),(3,23),(4,23)],.agg [.cl [],.cl [],.cl [],.cl [],.cl []]⟩:=AY
theorem Bqy:Dz prog 146=some ⟨1,24,.slice 148,.cl []⟩:=AY
theorem Bqx:Dz prog 148=some ⟨3,32,.struct [(0,9),(1,3),(2,3)],.agg [.p (.str []),.p (.int .i64 0),.p (.int .i64 0)]⟩:=AY
theorem Bqw:Dz prog 151=some ⟨2,16,.array 2 3,.agg [.p (.int .i64 0),.p (.int .i64 0)]⟩:=AY
theorem Bqv:Dz prog 158=some ⟨1,24,.slice 20,.cl []⟩:=AY
theorem Bqu:Dz prog 171=some ⟨13,112,.struct [(0,3),(1,4),(2,3),(3,3),(4,3),(5,119),(6,4),(7,4),(8,3),(9,3),(10,23),(11,3),(12,3)],.agg [.p (.int .i64 0),.p (.bool false),.p (.int .i64 0),.p (.int .i64 0),.p (.int .i64 0),.p (.int .u64 0),.p (.bool false),.p (.bool false),.p (.int .i64 0),.p (.int .i64 0),.cl [],.p (.int .i64 0),.p (.int .i64 0)]⟩:=AY
theorem Bqt:Dz prog 174=some ⟨21,424,.struct [(0,33),(8,71),(16,137)],.agg [.cl [],.cl [],.cl [],.cl [],.p (.int .i64 0),.p (.int .i64 0),.p (.int .i64 0),.p (.int .i64 0),.cl [],.cl [],.cl [],.cl [],.cl [],.cl [],.cl [],.p (.bool false),.cl [],.cl [],.cl [],.cl [],.cl []]⟩:=AY
theorem Bqs:Dz prog 178=some ⟨5,40,.struct [(0,3),(1,3),(2,119),(3,3),(4,3)],.agg [.p (.int .i64 0),.p (.int .i64 0),.p (.int .u64 0),.p (.int .i64 0),.p (.int .i64 0)]⟩:=AY
theorem Bqr:Dz prog 183=some ⟨4,48,.struct [(0,3),(1,9),(2,9),(3,3)],.agg [.p (.int .i64 0),.p (.str []),.p (.str []),.p (.int .i64 0)]⟩:=AY
theorem Bqq:Dz prog 205=some ⟨2,16,.struct [(0,3),(1,3)],.agg [.p (.int .i64 0),.p (.int .i64 0)]⟩:=AY
theorem Bqp:Dz prog 224=some ⟨5,120,.struct [(0,67),(3,69),(4,68)],.agg [.cl [],.cl [],.cl [],.cl [],.cl []]⟩:=AY
theorem Bqo:Dz prog 229=some ⟨5,40,.struct [(0,3),(1,3),(2,3),(3,3),(4,3)],.agg [.p (.int .i64 0),.p (.int .i64 0),.p (.int .i64 0),.p (.int .i64 0),.p (.int .i64 0)]⟩:=AY
theorem Bqn:Dz prog 242=some ⟨4,32,.struct [(0,3),(1,3),(2,3),(3,3)],.agg [.p (.int .i64 0),.p (.int .i64 0),.p (.int .i64 0),.p (.int .i64 0)]⟩:=AY
theorem Bql:Dz prog 304=some ⟨8,8,.array 8 4,.agg [.p (.bool false),.p (.bool false),.p (.bool false),.p (.bool false),.p (.bool false),.p (.bool false),.p (.bool false),.p (.bool false)]⟩:=AY
theorem Av0:Enters prog 4:=call4
theorem Bk2:Enters prog 5:=call5
theorem Bk1:Enters prog 6:=call6
theorem Bk0:Enters prog 7:=call7
theorem Bjz:Enters prog 8:=call8
theorem Bjy:Enters prog 9:=call9
theorem Bgd:Enters prog 11:=call11
theorem Bgc:Enters prog 13:=call13
theorem Adr:Enters prog 14:=call14
theorem Aox:Enters prog 15:=call15
theorem Bgb:Enters prog 16:=call16
theorem Aow:Enters prog 17:=call17
theorem Adq:Enters prog 18:=call18
theorem Bga:Enters prog 19:=call19
theorem Bg9:Enters prog 20:=call20
theorem Bg8:Enters prog 21:=call21
theorem Bg7:Enters prog 22:=call22
theorem Bg6:Enters prog 23:=call23
theorem Bg5:Enters prog 24:=call24
theorem Bg4:Enters prog 25:=call25
theorem Bg3:Enters prog 26:=call26
theorem Bg2:Enters prog 28:=call28
theorem Aov:Enters prog 29:=call29
theorem Aou:Enters prog 30:=call30
theorem Aot:Enters prog 31:=call31
theorem Adp:Enters prog 33:=call33
theorem Bg1:Enters prog 34:=call34
theorem Bg0:Enters prog 35:=call35
theorem Aos:Enters prog 36:=call36
theorem Aor:Enters prog 37:=call37
theorem Aoq:Enters prog 38:=call38
theorem Bfz:Enters prog 39:=call39
theorem Bfy:Enters prog 40:=call40
theorem Bfx:Enters prog 41:=call41
theorem Bfw:Enters prog 42:=call42
theorem Bfv:Enters prog 43:=call43
theorem Bfu:Enters prog 44:=call44
theorem Bft:Enters prog 45:=call45
theorem Bfs:Enters prog 46:=call46
theorem Bfr:Enters prog 47:=call47
theorem Bfq:Enters prog 48:=call48
theorem Bfp:Enters prog 49:=call49
theorem Bfo:Enters prog 50:=call50
theorem Aop:Enters prog 51:=call51
theorem Aoo:Enters prog 52:=call52
theorem Bfn:Enters prog 53:=call53
theorem Bfm:Enters prog 54:=call54
theorem Bfl:Enters prog 55:=call55
theorem Bfk:Enters prog 56:=call56
theorem Bfj:Enters prog 59:=call59
theorem Bfi:Enters prog 60:=call60
theorem Bfh:Enters prog 61:=call61
theorem Aon:Enters prog 62:=call62
theorem Bfg:Enters prog 63:=call63
theorem Bff:Enters prog 64:=call64
theorem Bfe:Enters prog 65:=call65
theorem Aom:Enters prog 66:=call66
theorem Aol:Enters prog 67:=call67
theorem Aok:Enters prog 68:=call68
theorem Bfd:Enters prog 69:=call69
theorem Bfc:Enters prog 70:=call70
theorem Bfb:Enters prog 71:=call71
theorem Bfa:Enters prog 72:=call72
theorem Aoj:Enters prog 73:=call73
theorem Bf9:Enters prog 74:=call74
theorem Bf8:Enters prog 75:=call75
theorem Bf7:Enters prog 76:=call76
theorem Bf6:Enters prog 77:=call77
theorem Bf5:Enters prog 78:=call78
theorem Bf4:Enters prog 79:=call79
theorem Bf3:Enters prog 80:=call80
theorem Aoi:Enters prog 81:=call81
theorem Bf2:Enters prog 82:=call82
theorem Bf1:Enters prog 83:=call83
theorem Bf0:Enters prog 84:=call84
theorem Bez:Enters prog 85:=call85
theorem Bey:Enters prog 86:=call86
theorem Bex:Enters prog 87:=call87
theorem Aoh:Enters prog 88:=call88
theorem Bew:Enters prog 89:=call89
theorem Bev:Enters prog 90:=call90
theorem Beu:Enters prog 91:=call91
theorem Bet:Enters prog 92:=call92
theorem Bes:Enters prog 93:=call93
theorem Ber:Enters prog 94:=call94
theorem Beq:Enters prog 95:=call95
theorem Bep:Enters prog 96:=call96
theorem Beo:Enters prog 97:=call97
theorem Ben:Enters prog 98:=call98
theorem Bem:Enters prog 99:=call99
theorem Ba5:Enters prog 100:=call100
theorem Ba4:Enters prog 101:=call101
theorem Ba3:Enters prog 102:=call102
theorem Ba2:Enters prog 104:=call104
theorem Ba1:Enters prog 105:=call105
theorem Ba0:Enters prog 106:=call106
theorem Azz:Enters prog 108:=call108
theorem Ahx:Enters prog 109:=call109
theorem Ahw:Enters prog 110:=call110
theorem YZ:Enters prog 111:=call111
theorem Azy:Enters prog 112:=call112
theorem Azx:Enters prog 113:=call113
theorem Azw:Enters prog 114:=call114
theorem Ahv:Enters prog 115:=call115
theorem Azv:Enters prog 116:=call116
theorem Azu:Enters prog 117:=call117
theorem Azt:Enters prog 118:=call118
theorem Azs:Enters prog 119:=call119
theorem Azr:Enters prog 120:=call120
theorem Ahu:Enters prog 121:=call121
theorem Azq:Enters prog 122:=call122
theorem Azp:Enters prog 123:=call123
theorem Azo:Enters prog 124:=call124
theorem Azn:Enters prog 125:=call125
theorem Azm:Enters prog 126:=call126
theorem Azl:Enters prog 127:=call127
theorem Azk:Enters prog 128:=call128
theorem Azj:Enters prog 129:=call129
theorem Azi:Enters prog 130:=call130
theorem Azh:Enters prog 131:=call131
theorem Azg:Enters prog 132:=call132
theorem Azf:Enters prog 133:=call133
theorem Aze:Enters prog 134:=call134
theorem Azd:Enters prog 135:=call135
theorem Azc:Enters prog 136:=call136
theorem Azb:Enters prog 137:=call137
theorem Aza:Enters prog 138:=call138
theorem Az9:Enters prog 139:=call139
theorem Aht:Enters prog 140:=call140
theorem Az8:Enters prog 141:=call141
theorem Az7:Enters prog 142:=call142
theorem Ahs:Enters prog 143:=call143
theorem Az6:Enters prog 144:=call144
theorem Az5:Enters prog 145:=call145
theorem Az4:Enters prog 146:=call146
theorem Az3:Enters prog 147:=call147
theorem Az2:Enters prog 148:=call148
theorem Ahr:Enters prog 149:=call149
theorem Az1:Enters prog 150:=call150
theorem Az0:Enters prog 151:=call151
theorem Ayz:Enters prog 152:=call152
theorem Ayy:Enters prog 153:=call153
theorem Ayx:Enters prog 155:=call155
theorem Ayw:Enters prog 156:=call156
theorem Ayv:Enters prog 158:=call158
theorem Ayu:Enters prog 160:=call160
theorem Ahq:Enters prog 161:=call161
theorem Ayt:Enters prog 162:=call162
theorem Ays:Enters prog 163:=call163
theorem Ayr:Enters prog 164:=call164
theorem Ayq:Enters prog 165:=call165
theorem Ayp:Enters prog 166:=call166
theorem Ayo:Enters prog 167:=call167
theorem Ayn:Enters prog 168:=call168
theorem Aym:Enters prog 169:=call169
theorem Ayl:Enters prog 170:=call170
theorem Ayk:Enters prog 171:=call171
theorem Ayj:Enters prog 172:=call172
theorem Ayi:Enters prog 173:=call173
theorem Ayh:Enters prog 174:=call174
theorem Ayg:Enters prog 175:=call175
theorem Ayf:Enters prog 176:=call176
theorem Aye:Enters prog 177:=call177
theorem Ayd:Enters prog 178:=call178
theorem Ayc:Enters prog 179:=call179
theorem Ayb:Enters prog 180:=call180
theorem Aya:Enters prog 181:=call181
theorem Ay9:Enters prog 182:=call182
theorem Ay8:Enters prog 183:=call183
theorem Ay7:Enters prog 184:=call184
theorem Ay6:Enters prog 185:=call185
theorem Ay5:Enters prog 186:=call186
theorem Ay4:Enters prog 187:=call187
theorem Ay3:Enters prog 188:=call188
theorem Ay2:Enters prog 189:=call189
theorem Ay1:Enters prog 190:=call190
theorem Ay0:Enters prog 191:=call191
theorem Axz:Enters prog 192:=call192
theorem Axy:Enters prog 193:=call193
theorem Axx:Enters prog 194:=call194
theorem Axw:Enters prog 195:=call195
theorem Axv:Enters prog 199:=call199
theorem Axu:Enters prog 201:=call201
theorem Axt:Enters prog 203:=call203
theorem Axs:Enters prog 204:=call204
theorem Axr:Enters prog 205:=call205
theorem Axq:Enters prog 206:=call206
theorem Axp:Enters prog 207:=call207
theorem Axo:Enters prog 208:=call208
theorem Axn:Enters prog 209:=call209
theorem Axm:Enters prog 210:=call210
theorem Axl:Enters prog 211:=call211
theorem Axk:Enters prog 212:=call212
theorem Axj:Enters prog 213:=call213
theorem Axi:Enters prog 214:=call214
theorem Axh:Enters prog 216:=call216
theorem Axg:Enters prog 224:=call224
theorem Axf:Enters prog 225:=call225
theorem Axe:Enters prog 226:=call226
theorem Axd:Enters prog 227:=call227
theorem mixed:prog.follows .mixedOrders=true:=AY
attribute [go_sem] ti2 ti3 ti4 ti5 ti9 Bxs Bnb Bxr Bxq
attribute [go_sem] Bqm Bxp Bxo Bxn Bxm
attribute [go_sem] Bxl Bzy Bxk
attribute [go_sem] Bxj Bxi Bxh Bxg Bxf Bxe Bxd
attribute [go_sem] Bxc Bxb Bxa Bx9 Bx8 Bx7 Bx6 Bx5
attribute [go_sem] Bx4 Bna Bqk Br7 Br6
attribute [go_sem] Br5 Br4 Br3 Br2 Br1
attribute [go_sem] Br0 Bqz Bqy Bqx Bqw Bqv
attribute [go_sem] Bqu Bqt Bqs Bqr
attribute [go_sem] Bqq Bqp Bqo
attribute [go_sem] Bqn Bql
attribute [go_sem] ntmps4 results4 ntmps5 results5 ntmps6 results6 ntmps7 results7 ntmps8 results8 ntmps9 results9
attribute [go_sem] ntmps11 results11 ntmps13 results13 ntmps14 results14 ntmps15 results15
attribute [go_sem] ntmps16 results16 ntmps17 results17 ntmps18 results18 ntmps19 results19 ntmps20 results20 ntmps21 results21
attribute [go_sem] ntmps22 results22 ntmps23 results23 ntmps24 results24 ntmps25 results25 ntmps26 results26
attribute [go_sem] ntmps28 results28 ntmps29 results29 ntmps30 results30 ntmps31 results31 ntmps33 results33
attribute [go_sem] ntmps34 results34 ntmps35 results35 ntmps36 results36 ntmps37 results37 ntmps38 results38 ntmps39 results39
attribute [go_sem] ntmps40 results40 ntmps41 results41 ntmps42 results42 ntmps43 results43 ntmps44 results44 ntmps45 results45
attribute [go_sem] ntmps46 results46 ntmps47 results47 ntmps48 results48 ntmps49 results49 ntmps50 results50 ntmps51 results51
attribute [go_sem] ntmps52 results52 ntmps53 results53 ntmps54 results54 ntmps55 results55 ntmps56 results56
attribute [go_sem] ntmps59 results59 ntmps60 results60 ntmps61 results61 ntmps62 results62 ntmps63 results63
attribute [go_sem] ntmps64 results64 ntmps65 results65 ntmps66 results66 ntmps67 results67 ntmps68 results68 ntmps69 results69
attribute [go_sem] ntmps70 results70 ntmps71 results71 ntmps72 results72 ntmps73 results73 ntmps74 results74 ntmps75 results75
attribute [go_sem] ntmps76 results76 ntmps77 results77 ntmps78 results78 ntmps79 results79 ntmps80 results80 ntmps81 results81
attribute [go_sem] ntmps82 results82 ntmps83 results83 ntmps84 results84 ntmps85 results85 ntmps86 results86 ntmps87 results87
attribute [go_sem] ntmps88 results88 ntmps89 results89 ntmps90 results90 ntmps91 results91 ntmps92 results92 ntmps93 results93
attribute [go_sem] ntmps94 results94 ntmps95 results95 ntmps96 results96 ntmps97 results97 ntmps98 results98 ntmps99 results99
attribute [go_sem] ntmps100 results100 ntmps101 results101 ntmps102 results102 ntmps104 results104 ntmps105 results105
attribute [go_sem] ntmps106 results106 ntmps108 results108 ntmps109 results109 ntmps110 results110 ntmps111 results111 ntmps112 results112
attribute [go_sem] ntmps113 results113 ntmps114 results114 ntmps115 results115 ntmps116 results116 ntmps117 results117 ntmps118 results118
attribute [go_sem] ntmps119 results119 ntmps120 results120 ntmps121 results121 ntmps122 results122 ntmps123 results123 ntmps124 results124
attribute [go_sem] ntmps125 results125 ntmps126 results126 ntmps127 results127 ntmps128 results128 ntmps129 results129 ntmps130 results130
attribute [go_sem] ntmps131 results131 ntmps132 results132 ntmps133 results133 ntmps134 results134 ntmps135 results135 ntmps136 results136
attribute [go_sem] ntmps137 results137 ntmps138 results138 ntmps139 results139 ntmps140 results140 ntmps141 results141 ntmps142 results142
attribute [go_sem] ntmps143 results143 ntmps144 results144 ntmps145 results145 ntmps146 results146 ntmps147 results147 ntmps148 results148
attribute [go_sem] ntmps149 results149 ntmps150 results150 ntmps151 results151 ntmps152 results152 ntmps153 results153
attribute [go_sem] ntmps155 results155 ntmps156 results156 ntmps158 results158 ntmps160 results160
attribute [go_sem] ntmps161 results161 ntmps162 results162 ntmps163 results163 ntmps164 results164 ntmps165 results165 ntmps166 results166
attribute [go_sem] ntmps167 results167 ntmps168 results168 ntmps169 results169 ntmps170 results170 ntmps171 results171 ntmps172 results172
attribute [go_sem] ntmps173 results173 ntmps174 results174 ntmps175 results175 ntmps176 results176 ntmps177 results177 ntmps178 results178
attribute [go_sem] ntmps179 results179 ntmps180 results180 ntmps181 results181 ntmps182 results182 ntmps183 results183 ntmps184 results184
attribute [go_sem] ntmps185 results185 ntmps186 results186 ntmps187 results187 ntmps188 results188 ntmps189 results189 ntmps190 results190
attribute [go_sem] ntmps191 results191 ntmps192 results192 ntmps193 results193 ntmps194 results194 ntmps195 results195
attribute [go_sem] ntmps199 results199 ntmps201 results201 ntmps203 results203 ntmps204 results204
attribute [go_sem] ntmps205 results205 ntmps206 results206 ntmps207 results207 ntmps208 results208 ntmps209 results209 ntmps210 results210
attribute [go_sem] ntmps211 results211 ntmps212 results212 ntmps213 results213 ntmps214 results214 ntmps216 results216
attribute [go_sem] ntmps224 results224 ntmps225 results225 ntmps226 results226 ntmps227 results227
attribute [go_sem ↓] reduceIte
attribute [go_sem] Nat.reduceLT Nat.reduceLeDiff Nat.reduceEqDiff Nat.reduceAdd Nat.reduceMul Nat.reduceSub reduceCtorEq Int.reduceLT Int.reduceLE Int.reduceEq Int.reduceToNat decide_true decide_false Int.reduceNeg Int.cast_ofNat_Int sg AO.sg Option.isNone_none
def CS(l:Aa):Ag:=l.map λ n=>[.int .i64 n]
abbrev Ae:=List (List UInt8)
def El(l:Ae):Ag:=l.map λ s=>[.str s]
theorem C0(l):(CS l).length=l.length:=by simp[CS]
theorem Fi(l)(i)(h:i<l.length):(CS l).getD i []=[.int .i64 (l.getD i 0)]:=by simp[CS,List.getD,h]
theorem DJ(l):(El l).length=l.length:=by simp[El]
theorem MP(l)(i)(h:i<l.length):(El l).getD i []=[.str (l.getD i [])]:=by simp[El,List.getD,h]
theorem L6(l)(x):CS (l++[x])=CS l++[[.int .i64 x]]:=by simp[CS]
theorem GH(l)(x):El (l++[x])=El l++[[.str x]]:=by simp[El]
theorem Uj(l)(n)(h:l.length<=n):(CS l).take n=CS l:=List.take_of_length_le (by simpa [CS] using h)
theorem L5(l)(n)(h:l.length<=n):(El l).take n=El l:=List.take_of_length_le (by simpa [El] using h)
abbrev iD(x:Int):D:= .p (.int .i64 x)
abbrev bD(x:Bool):D:= .p (.bool x)
abbrev sD(x:Ag):D:= .p (.sl x)
abbrev rD{α:Type}(i:Nat)(l:List α):D:= .ref i 0 l.length l.length
attribute [simp,go_sem] iD bD sD rD
theorem Lr(n)(x)(h:x.length=n):PX n [x]:=by simp[PX,h]
theorem XQ(l)(i)(x):El (l.set i x)=(El l).set i [.str x]:=by simp[El,BJ]
theorem On(l)(i)(x):CS (l.set i x)=(CS l).set i [.int .i64 x]:=by simp[CS,BJ]
theorem IE{α:Type}(l:List α)(i)(x:α)(h:i<l.length):l.getD i x∈l:=by simp only[List.getD,Bp h,BP];exact Cm h
theorem Ia{α:Type}(l:List α)(i)(x:α)(h:i<l.length):l.drop i=l.getD i x::l.drop (i+1):=by rw[List.drop_eq_getElem_cons h];simp[List.getD,h]
def Bhz(x:Int):Prop:=-9223372036854775808<=x/\x<=9223372036854775807
theorem DQ(i:Nat)(h:i<9223372036854775807):i64.wrap ((i:Int)+1)=((i+1:Nat):Int):=by rw[C5]<;>omega
def cut(v n:Int):Int:=if n<=1 then 0 else if v.tmod n<0 then v.tmod n+n else v.tmod n
theorem Box(v n):0<=cut v n/\(cut v n<n∨cut v n=0):=by
 unfold cut;split
 . omega
 . have a:=Int.tmod_lt_of_pos v (show 0<n by omega);have h2:=Int.lt_tmod_of_pos v (show 0<n by omega);split<;>omega
theorem Bgt(v n)(e:Bhz n):C3 prog 33 [iD v,iD n] [] λ h r=>h=[]/\r=iD (cut v n):=by
 unfold Bhz at e;refine Dx func33 rfl Adp (by simp[Tryz.f33]) ?_;simp only[go_sem];refine D5 (λ a=>?_) (λ a=>?_)
 . simp only[go_sem];simp at a;simp[cut,a]
 . simp only[go_sem];simp at a;refine ⟨AQ,?_⟩;refine D5 (λ h2=>?_) (λ h2=>?_)
   . simp at h2;have b:i64.wrap (v.tmod n+n)=v.tmod n+n:=by
       have f:=Int.tmod_lt_of_pos v (show 0<n by omega);have g:=Int.lt_tmod_of_pos v (show 0<n by omega);rw[C5]<;>omega
     simp only[go_sem,b];simp only[cut,h2,B5,true_and];rw[if_neg AQ]
   . simp only[go_sem];simp at h2;simp only[cut,true_and];rw[if_neg AQ,if_neg AQ]
def Vh(l:Aa)(at_:Nat)(n:Int):Int:=cut (if at_<l.length then l.getD at_ 0 else ((at_:Int)*7).tmod 11) n
theorem Bcs(l)(at_)(n):0<=Vh l at_ n/\(Vh l at_ n<n∨Vh l at_ n=0):=Box _ _
theorem FT(l)(at_)(n)(a:0<n):∃k:Nat,Vh l at_ n=(k:Int)/\(k:Int)<n:=by
 have h:=Bcs l at_ n;exact ⟨(Vh l at_ n).toNat,AQ,AQ⟩
theorem EX(n)(h0:0<=n)(a:n<=1000000):Bhz n:=by unfold Bhz;omega
theorem J5(l):(Gz l).length=l.length:=by simp[Gz]
theorem Bgl(l)(i)(h:i<l.length):(Gz l).getD i []=[.int .u8 (l.getD i 0).toNat]:=by simp[Gz,List.getD,h]
def Fu(l:Aa)(at_:Nat):Ai:=[.p (.sl (CS l)),.p (.int .i64 (at_:Nat))]
theorem ZF:(∀st Lt:St,Le st Lt=(Lt.n=st.n/\LeE st.env Lt.env/\KN st.hp Lt.hp/\((JP Lt.env++JF Lt.hp).all λ id=>(get Lt.hp id).isSome)=true/\OG Lt.hp st.hp))/\
   (∀e:Ar,LeE e []=True)/\(∀(e:Ar) (t:Nat) (d:D) (r:Ar),LeE e ((t,d)::r)=(get e t=some d/\LeE e r))/\
   (∀h:Hp,KN h []=True)/\(∀(h:Hp) (id:Nat) (o:AO) (r:Hp),KN h ((id,o)::r)=(get h id=some o/\KN h r))/\
   (∀(α:Type) (k:Nat),get ([]:List (Nat×α)) k=none)/\(∀(α:Type) (k':Nat) (x:α) (r:List (Nat×α)) (k:Nat),get ((k',x)::r) k=if k'=k then some x else get r k)/\
   JP []=[]/\(∀(t:Nat) (d:D) (r:Ar),JP ((t,d)::r)=d.ids++JP r)/\JF []=[]/\(∀(id:Nat) (o:AO) (r:Hp),JF ((id,o)::r)=o.ids++JF r)/\
   (∀h:Hp,OG h []=True)/\(∀(h:Hp) (id:Nat) (o:AO) (r:Hp),OG h ((id,o)::r)=((base<=id->get h id=some o)/\OG h r))/\
   (∀x,D.ids (.p x)=[])/\(∀cs,D.ids (.agg cs)=E8 cs)/\(∀cs,D.ids (.Em cs)=E8 cs)/\(∀es,D.ids (.cl es)=[])/\(∀es,D.ids (.cz es)=[])/\(∀i a b c,D.ids (.ref i a b c)=[i])/\(∀i a,D.ids (.ptr i a)=[i])/\(∀cs,D.ids (.pe cs)=[])/\
   (∀i a b c,D.ids (.ea i a b c)=[i])/\(∀f cs,D.ids (.fn f cs)=E8 cs)/\D.ids .np=[]/\(∀i,D.ids (.mv i)=[i])/\(∀i a,D.ids (.E3 i a)=[i])/\(∀i a b,D.ids (.R9 i a b)=[i])/\(∀i a b c,D.ids (.nr i a b c)=[i])/\D.ids .WE=[]/\
   E8 []=[]/\(∀d r,E8 (d::r)=D.ids d++E8 r)/\(∀cs t,AO.ids (.box cs t)=E8 cs)/\(∀t sz es,AO.ids (.arr t sz es)=[])/\(∀sz es,AO.ids (.Oh sz es)=[])/\(∀l q,AO.ids (.iter l q)=[])/\(∀g cs,AO.ids (.Ev g cs)=[])/\(∀x,AO.ids (.Ij x)=[])/\(∀l,AO.ids (.mp l)=[])/\(∀t e sz k rows hole,AO.ids (.Fc t e sz k rows hole)=[])/\
   (∀(α:Type) (k:Nat) (x:α),Dn [] k x=[(k,x)])/\(∀(α:Type) (k':Nat) (x':α) (r:List (Nat×α)) (k:Nat) (x:α),Dn ((k',x')::r) k x=if k'=k then (k,x)::r else (k',x')::Dn r k x)/\base=1000000:=by
 refine ⟨?_,?_,?_,?_,?_,?_,?_,?_,?_,?_,?_,?_,?_,?_,?_,?_,?_,?_,?_,?_,?_,?_,?_,?_,?_,?_,?_,?_,?_,?_,?_,?_,?_,?_,?_,?_,?_,?_,?_,?_,?_,?_⟩<;>intros<;>first | rfl | simp only[D.ids,E8,AO.ids]
theorem Cq{P:AK}{s:Bool}{ops rest:As}{k:Kt}{dst:Option Nat}{st:St}{h:Hp}{T:Aq}{f:AH}{ds:Ai}{b:Hp}{S:Prop}{a:Hp}{d:D}(e:C3 P f ds b λ h' r=>h'=a/\r=d)
   (g:fresh (dst.getD 0) h a/\O P s ops rest k (({st with hp:=merge T (dst.getD 0) h a}:St).put dst (d.GA (back T (dst.getD 0))))):Cc P s ops rest k dst st h T f ds b S:=Gn e (by rintro _ _ ⟨rfl,rfl⟩;exact g)
theorem Gq{P:AK}{l:As}{hR:Hp}{r:Al}{k:Kt}{e:Nat}{dst:Option Nat}{st:St}{h:Hp}{T:Aq}{f:AH}{ds:Ai}{b:Hp}{S:Prop}{a:Hp}{d:D}(g:C3 P f ds b λ h' x=>h'=a/\x=d)
   (i:fresh (dst.getD 0) h a/\Hd e (merge T (dst.getD 0) h a) hR/\G P l hR r k (({st with hp:=merge T (dst.getD 0) h a}:St).put dst (d.GA (back T (dst.getD 0))))):Gh P l hR r k e dst st h T f ds b S:=Avi g (by rintro _ _ ⟨rfl,rfl⟩;exact i)
theorem A7{p:Prop}(h:p:=by simp[KN,get]):p:=h
theorem Hq(l)(at_)(n)(PW:at_<1000000000000)(f:Bhz n):
   C3 prog 14 [.ptr 1000000 0,iD n] [(1000000,.box (Fu l at_))] λ h r=>h=[(1000000,.box (Fu l (at_+1)))]/\r=iD (Vh l at_ n):=by
 refine Dx func14 rfl Adr (by simp[Tryz.f14]) ?_;have e:i64.wrap ((at_:Int)*7)=(at_:Int)*7:=by rw[C5]<;>omega
 have a:i64.wrap ((at_:Int)+1)=((at_+1:Nat):Int):=by rw[C5]<;>omega
 unfold Fu;simp only[go_sem,e];refine Yb [(1000000,.box [.p (.sl (CS l)),.p (.int .i64 (at_:Nat))])] mixed (p:=[(0,0),(1,0),(2,0),(3,0),(4,0),(5,0),(6,0),(7,0),(8,0),(9,0)]) AY A7 ?_;simp only[go_sem,e,C0];refine D5 (λ b=>?_) (λ b=>?_)
 . have Dv:at_<l.length:=by simp at b;omega
   refine Yb [(1000000,.box [.p (.sl (CS l)),.p (.int .i64 (at_:Nat))])] mixed (p:=[(0,0),(1,0),(2,0),(3,0),(4,0),(5,0),(6,0),(7,0),(8,0),(9,0),(10,0)]) AY A7 ?_;simp only[go_sem,a,C0,Be,Fi l at_ Dv];refine ⟨AQ,Gn (Bgt _ _ f) ?_⟩;rintro g r ⟨rfl,rfl⟩;simp only[go_sem,a];simp[Vh,Dv]
 . simp only[go_sem,a];refine Cq (Bgt _ _ f) ?_;simp only[go_sem,a];have:¬at_<l.length:=by simp at b;omega
   simp[Vh,this]
structure Dc where
 word:Int
 line:Int
 names:Ae
 Bj1:Aa
 deriving DecidableEq
def Dc.d(x:Dc):D:= .agg [.p (.int .i64 x.word),.p (.int .i64 x.line),.p (.sl (El x.names)),.p (.sl (CS x.Bj1))]
structure Ln where
 num:Int
 fs:Ae
 deriving DecidableEq
def ln0:Ln:=⟨0,[]⟩
abbrev AA:=List Ln
def Lh(l:AA):Ag:=l.map λ x=>[.int .i64 x.num,.sl (El x.fs)]
theorem GQ(l):(Lh l).length=l.length:=by simp[Lh]
theorem Bgh(l)(i)(h:i<l.length):(Lh l).getD i []=[.int .i64 (l.getD i ln0).num,.sl (El (l.getD i ln0).fs)]:=by simp[Lh,List.getD,h]
theorem QA(l)(x):Lh (l++[x])=Lh l++[[.int .i64 x.num,.sl (El x.fs)]]:=by simp[Lh]
theorem Ai3(l)(n)(h:l.length<=n):(Lh l).take n=Lh l:=List.take_of_length_le (by simpa [Lh] using h)
def Aal(l:List Dc):Ag:=l.map λ x=>[.int .i64 x.word,.int .i64 x.line,.sl (El x.names),.sl (CS x.Bj1)]
theorem TD(l):(Aal l).length=l.length:=by simp[Aal]
theorem Aie(l)(x):Aal (l++[x])=Aal l++[[.int .i64 x.word,.int .i64 x.line,.sl (El x.names),.sl (CS x.Bj1)]]:=by simp[Aal]
def Ro(c:Int):Bool:=decide (97<=c/\c<=122)||decide (65<=c/\c<=90)
theorem Acl(c):C3 prog 160 [.p (.int .u8 c)] [] λ h r=>h=[]/\r=bD (Ro c):=by
 refine Dx func160 rfl Ayu (by simp[Tryz.f160]) ?_;by_cases a:97<=c<;>by_cases h2:c<=122<;>by_cases b:65<=c<;>by_cases e:c<=90<;>(try omega)<;>
 . simp only[go_sem,a,h2,b,e];simp[Ro,a,h2,b,e]
def chB(c:Int):Bool:=Ro c||decide (48<=c/\c<=57)||decide (c=45)||decide (c=95)
def ME(l:Ad):Bool:=match l with
 | []=>false
 | b::_=>decide (l.length<=12)&&Ro b.toNat&&l.all λ c=>chB c.toNat
theorem QQ(c):chB c=(Ro c||(decide (48<=c)&&decide (c<=57))||decide (c=45)||decide (c=95)):=by simp[chB]
theorem A5{p:Prop}(h:p:=by simp[Le,LeE,KN,get,JP,JF,OG,D.ids]):p:=h
theorem Anh(l):C3 prog 108 [.p (.str l)] [] λ h r=>h=[]/\r=bD (ME l):=by
 refine Dx func108 rfl Azz (by simp[Tryz.f108]) ?_;cases l with
 | nil=>
   simp only[go_sem];rfl
 | cons b l=>
   by_cases m:(12:Int)<((l.length+1:Nat):Int)
   . simp only[go_sem,m];have:¬l.length+1<=12:=AQ;simp[ME,this]
   . simp only[go_sem,m,BO];refine ⟨AQ,Gn (Acl _) ?_⟩;rintro u r ⟨rfl,rfl⟩;simp only[go_sem,m];cases hb:Ro b.toNat
     . simp only[go_sem];simp[ME,hb]
     . simp only[go_sem];refine Dq (λ i=>⟨[(0,.p (.str (b::l))),(3,.p (.int .i64 (i:Nat)))],[],46⟩) (λ i=>i<=l.length+1/\∀j,j<i->chB ((b::l).getD j 0).toNat=true) (λ i=>l.length+1 - i) 0 ⟨BQ _,AT⟩
         (Wk.forget A5) ?_
       rintro i n ⟨w,q⟩ t;simp only[go_sem];refine D5 (λ h2=>?_) (λ h2=>?_)
       . have Dv:i<(b::l).length:=by simp at h2 ⊢;omega
         simp only[go_sem,Be];have s:=DQ i AQ;generalize ZW:(((b::l).getD i 0).toNat:Int)=c;refine ⟨by simp at Dv;omega,Gn (Acl _) ?_⟩;rintro u r ⟨rfl,rfl⟩;have Xr:chB c=false->ME (b::l)=false:=by
           intro v;have:((b::l).all λ c=>chB c.toNat)=false:=by
             rw[Bool.eq_false_iff];intro o;have:=BB.1 o ((b::l).getD i 0) (by simp only[List.getD,Bp Dv,BP];exact Cm Dv);rw[ZW,v] at this;cases this
           simp only[ME,this,Bool.and_false]
         have Anv:chB c=true->∀j,j<i+1->chB ((b::l).getD j 0).toNat=true:=by
           intro o j e;rcases BL.1 e with e | rfl
           . exact q j e
           . rw[ZW];exact o
         have hle:i+1<=l.length+1:=by simp only[Br] at Dv;omega
         cases a:Ro c
         . by_cases NJ:c<48<;>by_cases g:57<c<;>by_cases f:c=45<;>by_cases k:c=95<;>(try omega)<;>
           . simp only[go_sem,a,NJ,g,f,k,s];first
               | exact ⟨trivial,by rw[Xr (by simp[QQ,a];omega)]⟩
               | exact ⟨rfl,by rw[Xr (by simp[QQ,a];omega)]⟩
               | (rw[Xr (by simp[QQ,a];omega)])
               | exact t (i+1) _ ⟨hle,Anv (by simp[QQ,a];omega)⟩ AQ (Wk.forget A5)
         . simp only[go_sem,a,s];exact t (i+1) _ ⟨hle,Anv (by simp[QQ,a])⟩ AQ (Wk.forget A5)
       . simp only[go_sem];have H8:i=l.length+1:=by simp at h2;omega
         have FE:((b::l).all λ c=>chB c.toNat)=true:=by
           refine BB.2 λ x hx=>?_;obtain ⟨j,e,rfl⟩:=Ch.1 hx;have:=q j (by simp at e;omega)
           simpa only[List.getD,List.getElem?_eq_getElem e,Option.getD_some] using this
         have ZY:l.length+1<=12:=AQ;simp only[ME,FE,hb,Br,ZY,decide_true,Bool.and_self,and_self]
def OX(s p:Ad):Bool:=decide (p.length<=s.length)&&decide (s.take p.length=p)
theorem Ako(s p):C3 prog 201 [.p (.str s),.p (.str p)] [] λ h r=>h=[]/\r=bD (OX s p):=by
 refine Dx func201 rfl Axu (by simp[Tryz.f201]) ?_;by_cases a:(p.length:Int)<=s.length
 . simp only[go_sem,a,Be];refine ⟨AQ,?_⟩;have h2:p.length<=s.length:=AQ;simp[OX,h2]
 . simp only[go_sem,a];have h2:¬p.length<=s.length:=AQ;simp[OX,h2]
theorem Ag6(s p):C3 prog 158 [.p (.str s),.p (.str p)] [] λ h r=>h=[]/\r= .Em [.p (.str (if OX s p then s.drop p.length else s)),bD (OX s p)]:=by
 refine Dx func158 rfl Ayv (by simp[Tryz.f158]) ?_;simp only[go_sem];refine Cq (Ako s p) ?_;simp only[go_sem];cases a:OX s p
 . simp only[go_sem];refine DF ?_;simp only[go_sem];try simp
 . simp only[go_sem,Be];have b:p.length<=s.length:=by
     simp only[OX,Bz,BI] at a;exact a.1
   refine ⟨AQ,DF ?_⟩;simp only[go_sem];try simp
theorem Alc(s p):C3 prog 104 [.p (.str s),.p (.str p)] [] λ h r=>h=[]/\r= .Em [.p (.str (if OX s p then s.drop p.length else s)),bD (OX s p)]:=by
 refine Dx func104 rfl Ba2 (by simp[Tryz.f104]) ?_;simp only[go_sem];refine Cq (Ag6 s p) ?_;simp only[go_sem];refine DF ?_;simp only[go_sem]
def F4(l:Ad):Int:=l.foldl (λ n c=>10*n+((c.toNat:Int) - 48)) 0
def OY(c:Int):Bool:=decide (48<=c)&&decide (c<=57)
def Ni(l:Ad):Bool:=l.all λ c=>OY c.toNat
def numOf(neg:Bool)(l:Ad):Int×Bool:=
 match l with
 | []=>(0,false)
 | b::r=>if 4<r.length+1∨((b.toNat:Int)=48/\(neg=true∨1<r.length+1)) then (0,false)
   else if Ni (b::r) then (if neg then 0 - F4 (b::r) else F4 (b::r),true) else (0,false)
def Hw(s:Ad):Int×Bool:=if OX s [45] then numOf true (s.drop 1) else numOf false s
theorem T3(l:Ad)(i)(h:i<l.length):F4 (l.take (i+1))=10*F4 (l.take i)+(((l.getD i 0).toNat:Int) - 48):=by
 unfold F4;rw[CG h,List.foldl_append];simp[List.getD,h]
theorem Bif(l:Ad)(h:∀c∈l,48<=c.toNat/\c.toNat<=57):∀(i:Nat),i<=l.length->i<=4->0<=F4 (l.take i)/\F4 (l.take i)<10 ^ i:=by
 intro i
 induction i with
 | zero=>intro _ _;simp[F4]
 | succ i a=>
   intro b h2;have e:=a AQ AQ;rw[T3 l i AQ];have f:=h (l.getD i 0) (by simp only[List.getD,Bp (show i<l.length by omega),BP];exact Cm _);have:(10:Int) ^ (i+1)=10*10 ^ i:=by rw[Int.pow_succ];omega
   omega
theorem p10(i)(h:i<=4):(10:Int) ^ i<=10000:=by
 rcases i with _ | _ | _ | _ | _ | i<;>simp at*<;>omega
theorem As2(s):C3 prog 55 [.p (.str s)] [] λ h r=>h=[]/\r= .Em [iD (Hw s).1,bD (Hw s).2]:=by
 refine Dx func55 rfl Bfl (by simp[Tryz.f55]) ?_;simp only[go_sem];refine Cq (Alc s [45]) ?_;simp only[go_sem];have key:Hw s=numOf (OX s [45]) (if OX s [45]=true then List.drop 1 s else s):=by
   unfold Hw;cases OX s [45]<;>rfl
 rw[key];clear key;generalize OX s [45]=neg;generalize (if neg=true then List.drop 1 s else s)=l;cases l with
 | nil=>
   simp only[go_sem];refine DF ?_;simp only[go_sem];try simp[numOf]
 | cons b l=>
   by_cases g:(4:Int)<((l.length+1:Nat):Int)
   . simp only[go_sem,g];refine DF ?_;simp only[go_sem];have:4<l.length+1:=AQ;try simp[numOf,this]
   . have q:¬4<l.length+1:=AQ;have hlen:(b::l).length<=4:=by simp only[Br];omega
     have bad:∀c:Int,(∃i,i<(b::l).length/\(((b::l).getD i 0).toNat:Int)=c)->OY c=false->Ni (b::l)=false:=by
       rintro c ⟨i,t,y⟩ z;rw[Bool.eq_false_iff];intro H;have:=BB.1 H ((b::l).getD i 0) (by simp only[List.getD,Bp t,BP];exact Cm t);simp only[y,z] at this;cases this
     by_cases Nw:(b.toNat:Int)=48/\(neg=true∨1<l.length+1)
     . obtain ⟨NJ,w⟩:=Nw;have OU:numOf neg (b::l)=(0,false):=by simp only[numOf,NJ,w,and_self,or_true,B5]
       cases neg
       . have o:(1:Int)<((l.length+1:Nat):Int):=by simp at w;omega
         simp only[go_sem,g,BO,NJ,o];refine ⟨AQ,DF ?_⟩;simp only[go_sem,OU]
       . simp only[go_sem,g,BO,NJ];refine ⟨AQ,DF ?_⟩;simp only[go_sem,OU]
     . have OU:numOf neg (b::l)=if Ni (b::l) then (if neg then 0 - F4 (b::l) else F4 (b::l),true) else (0,false):=by
         simp only[numOf,q,Nw,or_self,Cy]
       have Be3:((b.toNat:Int)≠48)∨((b.toNat:Int)=48/\neg=false/\¬(1:Int)<((l.length+1:Nat):Int)):=by
         by_cases h:(b.toNat:Int)=48
         . right;refine ⟨h,?_,?_⟩
           . cases neg
             . rfl
             . exact (Nw ⟨h,.inl rfl⟩).elim
           . intro o;exact Nw ⟨h,.inr AQ⟩
         . exact .inl h
       rcases Be3 with NJ | ⟨NJ,e,o⟩
       all_goals
         have Xo:=OU;first | rw[e] at Xo | skip
         first
           | simp only[go_sem,g,BO,NJ,o,e]
           | simp only[go_sem,g,BO,NJ]
         refine ⟨AQ,Bi7 rfl ti9 Bna ti5 rfl ?_⟩;simp only[go_sem,J5];refine Dq (λ i=>⟨[(35,.p (.sl (Gz (b::l)))),(36,.p (.int .i64 ((l.length+1:Nat):Int))),(37,.p (.int .i64 (i:Nat))),(6,.p (.int .i64 (F4 ((b::l).take i)))),(5,.p (.bool neg))],[],58⟩) (λ i=>i<=l.length+1/\0<=F4 ((b::l).take i)/\F4 ((b::l).take i)<10 ^ i/\∀j,j<i->OY ((b::l).getD j 0).toNat=true) (λ i=>l.length+1 - i) 0 ⟨BQ _,by simp[F4],by simp[F4],AT⟩
           (Wk.forget (by first | (simp[Le,LeE,KN,get,JP,JF,OG,D.ids,F4];done) | simp[Le,LeE,KN,get,JP,JF,OG,D.ids,F4,e])) ?_
         rintro i n ⟨t,u,m,v⟩ K;simp only[go_sem,J5];refine D5 (λ h2=>?_) (λ h2=>?_)
         . have Dv:i<(b::l).length:=by simp at h2 ⊢;omega
           simp only[go_sem,J5,Be,Bgl (b::l) i Dv];have I:=DQ i AQ;have ZT:=T3 (b::l) i Dv;generalize ZW:(((b::l).getD i 0).toNat:Int)=c at ZT;refine ⟨by simp only[Br] at Dv;omega,?_⟩;have hle:i+1<=l.length+1:=by simp only[Br] at Dv;omega
           have B:(10:Int) ^ i<=10000:=p10 i AQ;have E:(10:Int) ^ (i+1)=10*10 ^ i:=by rw[Int.pow_succ];omega
           by_cases Tk:c<48
           . simp only[go_sem,Tk];refine DF ?_;simp only[go_sem,Xo,bad c ⟨i,Dv,ZW⟩ (by simp[OY];omega)];try simp
           . by_cases J9:57<c
             . simp only[go_sem,Tk,J9];refine DF ?_;simp only[go_sem,Xo,bad c ⟨i,Dv,ZW⟩ (by simp[OY];omega)];try simp
             . have N:i64.wrap (10*F4 ((b::l).take i))=10*F4 ((b::l).take i):=by rw[C5]<;>omega
               have Q:IntKind.u8.wrap (c - 48)=c - 48:=by rw[IntKind.wrap_u8];omega
               have R:i64.wrap (c - 48)=c - 48:=by rw[C5]<;>omega
               have S:i64.wrap (10*F4 ((b::l).take i)+(c - 48))=F4 ((b::l).take (i+1)):=by rw[ZT,C5]<;>omega
               simp only[go_sem,Tk,J9,N,Q,R,S,I];refine K (i+1) _ ⟨hle,AQ,AQ,λ j k=>?_⟩ AQ (Wk.forget A5);rcases BL.1 k with k | rfl
               . exact v j k
               . rw[ZW];simp[OY];omega
         . simp only[go_sem];have H8:i=(b::l).length:=by simp at h2 ⊢;omega
           have FE:Ni (b::l)=true:=by
             refine BB.2 λ x hx=>?_;obtain ⟨j,k,rfl⟩:=Ch.1 hx;have:=v j AQ
             simpa only[List.getD,List.getElem?_eq_getElem k,Option.getD_some] using this
           have B:(10:Int) ^ i<=10000:=p10 i AQ;rw[H8,BH] at u m;rw[H8,BH];have T:i64.wrap (0 - F4 (b::l))=0 - F4 (b::l):=by rw[<-H8] at m;rw[C5]<;>omega
           refine D5 (λ f=>?_) (λ f=>?_)
           . simp only[go_sem,T];refine DF ?_;have a:=OU;rw[f] at a;first | (simp only[go_sem,a,FE,f];done) | (simp only[go_sem,a,FE,f];simp;done) | (simp[e] at f;done)
           . simp only[go_sem];refine DF ?_;have a:=OU;rw[f] at a;simp only[go_sem,a,FE,f];try simp
structure Blk where
 name:Ad
 x:Int
 y:Int
 deriving DecidableEq
structure Sf where
 name:Ad
 Fq:Bool
 PJ:Int
 out:Int
 Eg:Int
 base:Int
 deriving DecidableEq
abbrev Ab:=List (List Int)
structure Nt where
 blocks:List Blk
 next:Ab
 CT:List Sf
 C7:Aa
 cq:Int
 ca:Int
 cd:Int
 cp:Int
 deriving DecidableEq
def TT:Blk:=⟨[],0,0⟩
def EY:Sf:=⟨[],false,0,0,0,0⟩
def FF(l:List Blk):Ag:=l.map λ b=>[.str b.name,.int .i64 b.x,.int .i64 b.y]
def Dy(l:Ab):Ag:=l.map λ r=>[.sl (CS r)]
def Gy(l:List Sf):Ag:=l.map λ s=>[.str s.name,.bool s.Fq,.int .i64 s.PJ,.int .i64 s.out,.int .i64 s.Eg,.int .i64 s.base]
theorem DA(l):(FF l).length=l.length:=by simp[FF]
theorem Dt(l):(Dy l).length=l.length:=by simp[Dy]
theorem D9(l):(Gy l).length=l.length:=by simp[Gy]
theorem Ap2(l)(i)(h:i<l.length):(FF l).getD i []=[.str (l.getD i TT).name,.int .i64 (l.getD i TT).x,.int .i64 (l.getD i TT).y]:=by simp[FF,List.getD,h]
theorem QF(l)(i)(h:i<l.length):(Dy l).getD i []=[.sl (CS (l.getD i []))]:=by simp[Dy,List.getD,h]
theorem Om(l)(i)(h:i<l.length):(Gy l).getD i []=[.str (l.getD i EY).name,.bool (l.getD i EY).Fq,.int .i64 (l.getD i EY).PJ,.int .i64 (l.getD i EY).out,.int .i64 (l.getD i EY).Eg,.int .i64 (l.getD i EY).base]:=by simp[Gy,List.getD,h]
theorem Baf(l)(b):FF (l++[b])=FF l++[[.str b.name,.int .i64 b.x,.int .i64 b.y]]:=by simp[FF]
theorem Bae(l)(s):Gy (l++[s])=Gy l++[[.str s.name,.bool s.Fq,.int .i64 s.PJ,.int .i64 s.out,.int .i64 s.Eg,.int .i64 s.base]]:=by simp[Gy]
theorem Ai4(l)(n)(h:l.length<=n):(FF l).take n=FF l:=List.take_of_length_le (by simpa [FF] using h)
theorem Ai8(l)(n)(h:l.length<=n):(Dy l).take n=Dy l:=List.take_of_length_le (by simpa [Dy] using h)
theorem Ai1(l)(n)(h:l.length<=n):(Gy l).take n=Gy l:=List.take_of_length_le (by simpa [Gy] using h)
theorem Ap6(l)(i)(r):Dy (l.set i r)=(Dy l).set i [.sl (CS r)]:=by simp[Dy,BJ]
abbrev Ac:=List Bool
def Dl(l:Ac):Ag:=l.map λ b=>[.bool b]
def Nt.cs(n:Nt):Ai:=[.p (.sl (FF n.blocks)),.p (.sl (Dy n.next)),.p (.sl (Gy n.CT)),.p (.sl (CS n.C7)),.p (.int .i64 n.cq),.p (.int .i64 n.ca),.p (.int .i64 n.cd),.p (.int .i64 n.cp)]
def Tg:Aa->Int->Aa
 | [],x=>[x]
 | y::r,x=>if x<y then x::y::r else y::Tg r x
theorem Bd9(l)(x):(Tg l x).length=l.length+1:=by
 induction l with
 | nil=>rfl
 | cons y r a=>unfold Tg;split<;>simp[a]
theorem Acr(l)(x z):z∈Tg l x↔z=x∨z∈l:=by
 induction l with
 | nil=>simp[Tg]
 | cons y r a=>
   unfold Tg;split
   . simp
   . simp only[BU,a];constructor<;>(rintro (h | h | h)<;>simp[h])
theorem Bda(l)(x)(h:l.Pairwise (· < ·))(hx:x∉l):(Tg l x).Pairwise (· < ·):=by
 induction l with
 | nil=>simp[Tg]
 | cons y r g=>
   rw[List.pairwise_cons] at h;unfold Tg;split
   . rename_i b;rw[List.pairwise_cons];refine ⟨λ z a=>?_,List.pairwise_cons.2 h⟩;rcases BU.1 a with rfl | a
     . exact b
     . have:=h.1 z a;omega
   . rename_i b;have EG:x≠y:=λ e=>hx (by simp[e]);rw[List.pairwise_cons];refine ⟨λ z a=>?_,g h.2 (λ f=>hx (List.mem_cons_of_mem _ f))⟩;rcases (Acr r x z).1 a with rfl | a
     . omega
     . exact h.1 z a
theorem getD_eq{α:Type}{l:List α}{k}{x}(h:k<l.length):l.getD k x=l[k]:=by simp[List.getD,h]
theorem Qx(l)(i)(h:i<l.length):(Dl l).getD i []=[.bool (l.getD i false)]:=by simp[Dl,List.getD,h]
theorem G5{α:Type}(l:List α)(i)(x:α)(h:i<l.length):l.take (i+1)=l.take i++[l.getD i x]:=by
 rw[List.take_add_one,List.getD,Bp h];rfl
theorem Adz(l)(i):(CS l).take i=CS (l.take i):=by simp[CS,CE]
theorem Bla:∀(a b:Aa),a.Nodup->(∀x∈a,x∈b)->a.length<=b.length
 | [],_,_,_=>AT
 | x::a,b,f,g=>by
   rw[List.nodup_cons] at f;have hx:=g x AT;have j:=Bla a (b.erase x) f.2 (λ y i=>(List.mem_erase_of_ne (λ e=>f.1 (by rw[<-e];exact i))).2 (g y (by simp[i])));rw[List.length_erase_of_mem hx] at j;have:=List.length_pos_of_mem hx;simp only[Br];omega
theorem As1(s):C3 prog 59 [.p (.str s)] [] λ h r=>h=[]/\r= .Em [iD (Hw s).1,bD (Hw s).2]:=by
 refine Dx func59 rfl Bfj (by simp[Tryz.f59]) ?_;cases s with
 | nil=>
   simp only[go_sem];refine DF ?_;simp only[go_sem];try simp[Hw,OX,numOf]
 | cons c r=>
 by_cases f:(c.toNat:Int)=45
 . have m:List.drop 1 (List.take ((r.length+1:Nat):Int).toNat (c::r))=r:=by
     rw[Be,show r.length+1=(c::r).length from rfl,BH];rfl
   have u:Hw (c::r)=numOf true r:=by
     have:c=45:=UInt8.toNat_inj.1 AW;subst this;simp[Hw,OX]
   rw[u];simp only[go_sem,f,BO];refine ⟨AQ,AQ,?_⟩;simp only[go_sem,m];cases r with
   | nil=>
     simp only[go_sem];refine DF ?_;simp only[go_sem];try simp[numOf]
   | cons b l=>
     by_cases g:(4:Int)<((l.length+1:Nat):Int)
     . simp only[go_sem,g];refine DF ?_;simp only[go_sem];have:4<l.length+1:=AQ;try simp[numOf,this]
     . have k:¬4<l.length+1:=AQ;have hlen:(b::l).length<=4:=by simp only[Br];omega
       have bad:∀c:Int,(∃i,i<(b::l).length/\(((b::l).getD i 0).toNat:Int)=c)->OY c=false->Ni (b::l)=false:=by
         rintro c ⟨i,o,f⟩ w;rw[Bool.eq_false_iff];intro B;have:=BB.1 B ((b::l).getD i 0) (by simp only[List.getD,Bp o,BP];exact Cm o);simp only[f,w] at this;cases this
       by_cases NJ:(b.toNat:Int)=48
       . have OU:numOf true (b::l)=(0,false):=by simp only[numOf,NJ,true_or,and_self,or_true,B5]
         by_cases v:(1:Int)<((l.length+1:Nat):Int);all_goals
           simp only[go_sem,g,m,BO,NJ,v];refine ⟨AQ,DF ?_⟩;simp only[go_sem,OU]
       . have OU:numOf true (b::l)=if Ni (b::l) then (if true then 0 - F4 (b::l) else F4 (b::l),true) else (0,false):=by
           simp only[numOf,k,NJ,false_and,or_self,Cy]
         . have Xo:=OU;simp only[go_sem,g,m,BO,NJ];refine ⟨AQ,?_⟩;(try simp only[go_sem]);refine Dq (λ i=>⟨[(0,.p (.str (b::l))),(6,.p (.int .i64 (i:Nat))),(5,.p (.int .i64 (F4 ((b::l).take i)))),(4,.p (.bool true))],[],65⟩) (λ i=>i<=l.length+1/\0<=F4 ((b::l).take i)/\F4 ((b::l).take i)<10 ^ i/\∀j,j<i->OY ((b::l).getD j 0).toNat=true) (λ i=>l.length+1 - i) 0 ⟨BQ _,by simp[F4],by simp[F4],AT⟩
             (Wk.forget (by first | (simp[Le,LeE,KN,get,JP,JF,OG,D.ids,F4];done) | simp[Le,LeE,KN,get,JP,JF,OG,D.ids,F4,hng])) ?_
           rintro i n ⟨o,q,e,t⟩ H;simp only[go_sem];refine D5 (λ h2=>?_) (λ h2=>?_)
           . have Dv:i<(b::l).length:=by simp at h2 ⊢;omega
             simp only[go_sem];have E:=DQ i AQ;have ZT:=T3 (b::l) i Dv;generalize ZW:(((b::l).getD i 0).toNat:Int)=c at ZT;have hle:i+1<=l.length+1:=by simp only[Br] at Dv;omega
             have y:(10:Int) ^ i<=10000:=p10 i AQ;have z:(10:Int) ^ (i+1)=10*10 ^ i:=by rw[Int.pow_succ];omega
             have Og:(i:Int)<((l.length+1:Nat):Int):=by simp only[Br] at Dv;omega
             have FU:(0:Int)<=(i:Int):=AQ;by_cases Tk:c<48
             . simp only[go_sem,Be,Og,FU,ZW,Tk];refine DF ?_;simp only[go_sem,Xo,bad c ⟨i,Dv,ZW⟩ (by simp[OY];omega)];try simp
             . by_cases J9:57<c
               . simp only[go_sem,Be,Og,FU,ZW,Tk,J9];refine DF ?_;simp only[go_sem,Xo,bad c ⟨i,Dv,ZW⟩ (by simp[OY];omega)];try simp
               . have I:i64.wrap (10*F4 ((b::l).take i))=10*F4 ((b::l).take i):=by rw[C5]<;>omega
                 have K:IntKind.u8.wrap (c - 48)=c - 48:=by rw[IntKind.wrap_u8];omega
                 have N:i64.wrap (c - 48)=c - 48:=by rw[C5]<;>omega
                 have Q:i64.wrap (10*F4 ((b::l).take i)+(c - 48))=F4 ((b::l).take (i+1)):=by rw[ZT,C5]<;>omega
                 simp only[go_sem,Be,Og,FU,ZW,Tk,J9,I,K,N,Q,E];refine H (i+1) _ ⟨hle,AQ,AQ,λ j a=>?_⟩ AQ (Wk.forget A5);rcases BL.1 a with a | rfl
                 . exact t j a
                 . rw[ZW];simp[OY];omega
           . simp only[go_sem];have H8:i=(b::l).length:=by simp at h2 ⊢;omega
             have FE:Ni (b::l)=true:=by
               refine BB.2 λ x hx=>?_;obtain ⟨j,a,rfl⟩:=Ch.1 hx;have:=t j AQ
               simpa only[List.getD,List.getElem?_eq_getElem a,Option.getD_some] using this
             have y:(10:Int) ^ i<=10000:=p10 i AQ;rw[H8,BH] at q e;rw[H8,BH];have R:i64.wrap (0 - F4 (b::l))=0 - F4 (b::l):=by rw[<-H8] at e;rw[C5]<;>omega
             (try simp only[go_sem,R]);refine DF ?_;simp only[go_sem,OU,FE];try simp
 . have u:Hw (c::r)=numOf false (c::r):=by
     have:OX (c::r) [45]=false:=by
       simp[OX];intro h;subst h;exact f rfl
     simp[Hw,this]
   rw[u];simp only[go_sem,f,BO];refine ⟨AQ,?_⟩;try simp only[go_sem,f,BO]
   revert f u
   generalize c=b;generalize r=l;intro f u;by_cases g:(4:Int)<((l.length+1:Nat):Int)
   . simp only[go_sem,g];refine DF ?_;simp only[go_sem];have:4<l.length+1:=AQ;try simp[numOf,this]
   . have k:¬4<l.length+1:=AQ;have hlen:(b::l).length<=4:=by simp only[Br];omega
     have bad:∀c:Int,(∃i,i<(b::l).length/\(((b::l).getD i 0).toNat:Int)=c)->OY c=false->Ni (b::l)=false:=by
       rintro c ⟨i,o,f⟩ w;rw[Bool.eq_false_iff];intro B;have:=BB.1 B ((b::l).getD i 0) (by simp only[List.getD,Bp o,BP];exact Cm o);simp only[f,w] at this;cases this
     by_cases v:(1:Int)<((l.length+1:Nat):Int)<;>by_cases NJ:(b.toNat:Int)=48
     . have OU:numOf false (b::l)=(0,false):=by
         have:1<l.length+1:=AQ;simp only[numOf,NJ,this,and_self,or_true,B5]
       simp only[go_sem,g,BO,NJ,v];refine ⟨AQ,DF ?_⟩;simp only[go_sem,OU]
     all_goals
       have OU:numOf false (b::l)=if Ni (b::l) then (if false then 0 - F4 (b::l) else F4 (b::l),true) else (0,false):=by
         have:¬((b.toNat:Int)=48/\(false=true∨1<l.length+1)):=by
           rintro ⟨h,h2 | h2⟩
           . cases h2
           . first | exact NJ h | omega
         simp only[numOf,k,this,or_self,Cy]
       . have Xo:=OU;simp only[go_sem,g,BO,NJ,v];refine ⟨AQ,?_⟩;(try simp only[go_sem]);refine Dq (λ i=>⟨[(0,.p (.str (b::l))),(6,.p (.int .i64 (i:Nat))),(5,.p (.int .i64 (F4 ((b::l).take i)))),(4,.p (.bool false))],[],65⟩) (λ i=>i<=l.length+1/\0<=F4 ((b::l).take i)/\F4 ((b::l).take i)<10 ^ i/\∀j,j<i->OY ((b::l).getD j 0).toNat=true) (λ i=>l.length+1 - i) 0 ⟨BQ _,by simp[F4],by simp[F4],AT⟩
           (Wk.forget (by first | (simp[Le,LeE,KN,get,JP,JF,OG,D.ids,F4];done) | simp[Le,LeE,KN,get,JP,JF,OG,D.ids,F4,hng])) ?_
         rintro i n ⟨o,q,e,t⟩ H;simp only[go_sem];refine D5 (λ h2=>?_) (λ h2=>?_)
         . have Dv:i<(b::l).length:=by simp at h2 ⊢;omega
           simp only[go_sem];have E:=DQ i AQ;have ZT:=T3 (b::l) i Dv;generalize ZW:(((b::l).getD i 0).toNat:Int)=c at ZT;have hle:i+1<=l.length+1:=by simp only[Br] at Dv;omega
           have y:(10:Int) ^ i<=10000:=p10 i AQ;have z:(10:Int) ^ (i+1)=10*10 ^ i:=by rw[Int.pow_succ];omega
           have Og:(i:Int)<((l.length+1:Nat):Int):=by simp only[Br] at Dv;omega
           have FU:(0:Int)<=(i:Int):=AQ;by_cases Tk:c<48
           . simp only[go_sem,Be,Og,FU,ZW,Tk];refine DF ?_;simp only[go_sem,Xo,bad c ⟨i,Dv,ZW⟩ (by simp[OY];omega)];try simp
           . by_cases J9:57<c
             . simp only[go_sem,Be,Og,FU,ZW,Tk,J9];refine DF ?_;simp only[go_sem,Xo,bad c ⟨i,Dv,ZW⟩ (by simp[OY];omega)];try simp
             . have I:i64.wrap (10*F4 ((b::l).take i))=10*F4 ((b::l).take i):=by rw[C5]<;>omega
               have K:IntKind.u8.wrap (c - 48)=c - 48:=by rw[IntKind.wrap_u8];omega
               have N:i64.wrap (c - 48)=c - 48:=by rw[C5]<;>omega
               have Q:i64.wrap (10*F4 ((b::l).take i)+(c - 48))=F4 ((b::l).take (i+1)):=by rw[ZT,C5]<;>omega
               simp only[go_sem,Be,Og,FU,ZW,Tk,J9,I,K,N,Q,E];refine H (i+1) _ ⟨hle,AQ,AQ,λ j a=>?_⟩ AQ (Wk.forget A5);rcases BL.1 a with a | rfl
               . exact t j a
               . rw[ZW];simp[OY];omega
         . simp only[go_sem];have H8:i=(b::l).length:=by simp at h2 ⊢;omega
           have FE:Ni (b::l)=true:=by
             refine BB.2 λ x hx=>?_;obtain ⟨j,a,rfl⟩:=Ch.1 hx;have:=t j AQ
             simpa only[List.getD,List.getElem?_eq_getElem a,Option.getD_some] using this
           have y:(10:Int) ^ i<=10000:=p10 i AQ;rw[H8,BH] at q e;rw[H8,BH];have R:i64.wrap (0 - F4 (b::l))=0 - F4 (b::l):=by rw[<-H8] at e;rw[C5]<;>omega
           (try simp only[go_sem]);refine DF ?_;simp only[go_sem,OU,FE];try simp
end Go.Am
end
