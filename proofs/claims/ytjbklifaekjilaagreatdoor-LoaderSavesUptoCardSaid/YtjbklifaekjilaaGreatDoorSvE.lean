/- Texts of this proof, what it rests on, merged: part E. -/
import Derived.Test.YtjbklifaekjilaaGreatDoorProg
import Derived.KernelRfl
import Derived.Test.YtjbklifaekjilaaGreatDoorSvD
section
namespace Go.Am
open Go Go.Proofs
set_option maxRecDepth 100000
set_option linter.unusedVariables false
set_option linter.unusedSimpArgs false
set_option maxHeartbeats 2000000
theorem ti2:AT Tryz.prog 2=some ⟨1,8,.int .i64,.p (.int .i64 0)⟩:=by kernel_rfl
theorem ti3:AT Tryz.prog 3=some ⟨1,8,.int .i64,.p (.int .i64 0)⟩:=by kernel_rfl
theorem ti4:AT Tryz.prog 4=some ⟨1,1,.bool,.p (.bool false)⟩:=by kernel_rfl
theorem ti5:AT Tryz.prog 5=some ⟨1,1,.int .u8,.p (.int .u8 0)⟩:=by kernel_rfl
theorem ti9:AT Tryz.prog 9=some ⟨1,16,.string,.p (.str [])⟩:=by kernel_rfl
theorem Avx:AT Tryz.prog 21=some ⟨1,4,.int .i32,.p (.int .i32 0)⟩:=by kernel_rfl
theorem Alg:AT Tryz.prog 22=some ⟨1,24,.slice 3,.cl []⟩:=by kernel_rfl
theorem Avw:AT Tryz.prog 26=some ⟨1,24,.slice 9,.cl []⟩:=by kernel_rfl
theorem Avv:AT Tryz.prog 27=some ⟨1,24,.slice 76,.cl []⟩:=by kernel_rfl
theorem Afb:AT Tryz.prog 28=some ⟨1,24,.slice 22,.cl []⟩:=by kernel_rfl
theorem Avu:AT Tryz.prog 29=some ⟨1,24,.slice 68,.cl []⟩:=by kernel_rfl
theorem Avt:AT Tryz.prog 31=some ⟨4,32,.struct [(0,3),(1,3),(2,3),(3,3)],.agg [.p (.int .i64 0),.p (.int .i64 0),.p (.int .i64 0),.p (.int .i64 0)]⟩:=by kernel_rfl
theorem Avs:AT Tryz.prog 33=some ⟨8,128,.struct [(0,27),(1,28),(2,29),(3,22),(4,31)],.agg [.cl [],.cl [],.cl [],.cl [],.p (.int .i64 0),.p (.int .i64 0),.p (.int .i64 0),.p (.int .i64 0)]⟩:=by kernel_rfl
theorem Avr:AT Tryz.prog 35=some ⟨4,48,.struct [(0,3),(1,22),(2,3),(3,3)],.agg [.p (.int .i64 0),.cl [],.p (.int .i64 0),.p (.int .i64 0)]⟩:=by kernel_rfl
theorem Avq:AT Tryz.prog 42=some ⟨1,24,.slice 80,.cl []⟩:=by kernel_rfl
theorem Avp:AT Tryz.prog 45=some ⟨1,24,.slice 82,.cl []⟩:=by kernel_rfl
theorem Avo:AT Tryz.prog 52=some ⟨1,24,.slice 4,.cl []⟩:=by kernel_rfl
theorem Avn:AT Tryz.prog 60=some ⟨2,32,.struct [(0,22),(1,3)],.agg [.cl [],.p (.int .i64 0)]⟩:=by kernel_rfl
theorem Avm:AT Tryz.prog 61=some ⟨1,24,.slice 33,.cl []⟩:=by kernel_rfl
theorem Avl:AT Tryz.prog 68=some ⟨6,56,.struct [(0,9),(1,4),(2,3),(3,3),(4,3),(5,3)],.agg [.p (.str []),.p (.bool false),.p (.int .i64 0),.p (.int .i64 0),.p (.int .i64 0),.p (.int .i64 0)]⟩:=by kernel_rfl
theorem Alf:AT Tryz.prog 72=some ⟨1,24,.slice 5,.cl []⟩:=by kernel_rfl
theorem Avk:AT Tryz.prog 76=some ⟨3,32,.struct [(0,9),(1,3),(2,3)],.agg [.p (.str []),.p (.int .i64 0),.p (.int .i64 0)]⟩:=by kernel_rfl
theorem Avj:AT Tryz.prog 80=some ⟨2,32,.struct [(0,3),(1,26)],.agg [.p (.int .i64 0),.cl []]⟩:=by kernel_rfl
theorem Avi:AT Tryz.prog 82=some ⟨4,64,.struct [(0,3),(1,3),(2,26),(3,22)],.agg [.p (.int .i64 0),.p (.int .i64 0),.cl [],.cl []]⟩:=by kernel_rfl
theorem Avh:AT Tryz.prog 95=some ⟨1,8,.other,.bad⟩:=by kernel_rfl
theorem Avg:AT Tryz.prog 98=some ⟨1,8,.other,.bad⟩:=by kernel_rfl
theorem Asb:AT Tryz.prog 115=some ⟨1,24,.slice 120,.cl []⟩:=by kernel_rfl
theorem Asa:AT Tryz.prog 117=some ⟨14,208,.struct [(0,33),(8,95),(9,95),(10,22),(11,3),(12,115),(13,4)],.agg [.cl [],.cl [],.cl [],.cl [],.p (.int .i64 0),.p (.int .i64 0),.p (.int .i64 0),.p (.int .i64 0),.bad,.bad,.cl [],.p (.int .i64 0),.cl [],.p (.bool false)]⟩:=by kernel_rfl
theorem As9:AT Tryz.prog 120=some ⟨2,16,.array 2 3,.agg [.p (.int .i64 0),.p (.int .i64 0)]⟩:=by kernel_rfl
theorem Auh:Ai2 Tryz.prog 120=some [.int,.int]:=by kernel_rfl
theorem Aoc:AT Tryz.prog 137=some ⟨3,40,.struct [(0,9),(1,9),(2,4)],.agg [.p (.str []),.p (.str []),.p (.bool false)]⟩:=by kernel_rfl
theorem Aob:AT Tryz.prog 138=some ⟨21,280,.array 7 137,.agg [.p (.str []),.p (.str []),.p (.bool false),.p (.str []),.p (.str []),.p (.bool false),.p (.str []),.p (.str []),.p (.bool false),.p (.str []),.p (.str []),.p (.bool false),.p (.str []),.p (.str []),.p (.bool false),.p (.str []),.p (.str []),.p (.bool false),.p (.str []),.p (.str []),.p (.bool false)]⟩:=by kernel_rfl
theorem Aoa:AT Tryz.prog 142=some ⟨2,32,.struct [(0,140),(1,72)],.agg [.np,.cl []]⟩:=by kernel_rfl
theorem As8:AT Tryz.prog 155=some ⟨1,24,.slice 137,.cl []⟩:=by kernel_rfl
theorem As7:AT Tryz.prog 160=some ⟨1,8,.int .u64,.p (.int .u64 0)⟩:=by kernel_rfl
theorem As6:AT Tryz.prog 163=some ⟨9,200,.struct [(0,28),(1,52),(2,22),(3,22),(4,22),(5,22),(6,22),(7,3),(8,22)],.agg [.cl [],.cl [],.cl [],.cl [],.cl [],.cl [],.cl [],.p (.int .i64 0),.cl []]⟩:=by kernel_rfl
theorem As5:AT Tryz.prog 192=some ⟨1,8,.int .u64,.p (.int .u64 0)⟩:=by kernel_rfl
theorem Asi:mapOf Tryz.prog 95=some (.str,.int .i64 0):=by kernel_rfl
theorem Agg:mapOf Tryz.prog 98=some (.int .i64,.bool false):=by kernel_rfl
theorem r6:Enters Tryz.prog 5:=fun args w=>Tryz.call5 args w
theorem An3:Enters Tryz.prog 8:=fun args w=>Tryz.call8 args w
theorem Ajn:Enters Tryz.prog 10:=fun args w=>Tryz.call10 args w
theorem Ajm:Enters Tryz.prog 13:=fun args w=>Tryz.call13 args w
theorem Ajl:Enters Tryz.prog 18:=fun args w=>Tryz.call18 args w
theorem Ajk:Enters Tryz.prog 19:=fun args w=>Tryz.call19 args w
theorem Ajj:Enters Tryz.prog 20:=fun args w=>Tryz.call20 args w
theorem Xw:Enters Tryz.prog 21:=fun args w=>Tryz.call21 args w
theorem Aji:Enters Tryz.prog 22:=fun args w=>Tryz.call22 args w
theorem Ajh:Enters Tryz.prog 23:=fun args w=>Tryz.call23 args w
theorem Ajg:Enters Tryz.prog 24:=fun args w=>Tryz.call24 args w
theorem Ajf:Enters Tryz.prog 25:=fun args w=>Tryz.call25 args w
theorem Aje:Enters Tryz.prog 26:=fun args w=>Tryz.call26 args w
theorem Ajd:Enters Tryz.prog 27:=fun args w=>Tryz.call27 args w
theorem Ajc:Enters Tryz.prog 28:=fun args w=>Tryz.call28 args w
theorem Ajb:Enters Tryz.prog 29:=fun args w=>Tryz.call29 args w
theorem Aja:Enters Tryz.prog 30:=fun args w=>Tryz.call30 args w
theorem Aj9:Enters Tryz.prog 31:=fun args w=>Tryz.call31 args w
theorem Aj8:Enters Tryz.prog 32:=fun args w=>Tryz.call32 args w
theorem Xv:Enters Tryz.prog 40:=fun args w=>Tryz.call40 args w
theorem Xu:Enters Tryz.prog 41:=fun args w=>Tryz.call41 args w
theorem Aj7:Enters Tryz.prog 42:=fun args w=>Tryz.call42 args w
theorem Aj6:Enters Tryz.prog 43:=fun args w=>Tryz.call43 args w
theorem Aj5:Enters Tryz.prog 44:=fun args w=>Tryz.call44 args w
theorem Xt:Enters Tryz.prog 45:=fun args w=>Tryz.call45 args w
theorem Aj4:Enters Tryz.prog 46:=fun args w=>Tryz.call46 args w
theorem Xs:Enters Tryz.prog 47:=fun args w=>Tryz.call47 args w
theorem Aj3:Enters Tryz.prog 48:=fun args w=>Tryz.call48 args w
theorem Aj2:Enters Tryz.prog 49:=fun args w=>Tryz.call49 args w
theorem Aj1:Enters Tryz.prog 50:=fun args w=>Tryz.call50 args w
theorem Aj0:Enters Tryz.prog 51:=fun args w=>Tryz.call51 args w
theorem Aiz:Enters Tryz.prog 52:=fun args w=>Tryz.call52 args w
theorem Xr:Enters Tryz.prog 53:=fun args w=>Tryz.call53 args w
theorem Aiy:Enters Tryz.prog 54:=fun args w=>Tryz.call54 args w
theorem Aix:Enters Tryz.prog 55:=fun args w=>Tryz.call55 args w
theorem Xq:Enters Tryz.prog 56:=fun args w=>Tryz.call56 args w
theorem Aiw:Enters Tryz.prog 57:=fun args w=>Tryz.call57 args w
theorem Aiv:Enters Tryz.prog 58:=fun args w=>Tryz.call58 args w
theorem Aiu:Enters Tryz.prog 59:=fun args w=>Tryz.call59 args w
theorem Ait:Enters Tryz.prog 60:=fun args w=>Tryz.call60 args w
theorem Ais:Enters Tryz.prog 61:=fun args w=>Tryz.call61 args w
theorem Air:Enters Tryz.prog 62:=fun args w=>Tryz.call62 args w
theorem Aiq:Enters Tryz.prog 63:=fun args w=>Tryz.call63 args w
theorem Aip:Enters Tryz.prog 64:=fun args w=>Tryz.call64 args w
theorem Aio:Enters Tryz.prog 65:=fun args w=>Tryz.call65 args w
theorem Ain:Enters Tryz.prog 66:=fun args w=>Tryz.call66 args w
theorem Xp:Enters Tryz.prog 67:=fun args w=>Tryz.call67 args w
theorem Aim:Enters Tryz.prog 68:=fun args w=>Tryz.call68 args w
theorem Ail:Enters Tryz.prog 70:=fun args w=>Tryz.call70 args w
theorem Aik:Enters Tryz.prog 72:=fun args w=>Tryz.call72 args w
theorem Aij:Enters Tryz.prog 73:=fun args w=>Tryz.call73 args w
theorem Aii:Enters Tryz.prog 75:=fun args w=>Tryz.call75 args w
theorem Aih:Enters Tryz.prog 82:=fun args w=>Tryz.call82 args w
theorem Aig:Enters Tryz.prog 83:=fun args w=>Tryz.call83 args w
theorem Aif:Enters Tryz.prog 84:=fun args w=>Tryz.call84 args w
theorem Aie:Enters Tryz.prog 85:=fun args w=>Tryz.call85 args w
theorem Xo:Enters Tryz.prog 86:=fun args w=>Tryz.call86 args w
theorem Aid:Enters Tryz.prog 87:=fun args w=>Tryz.call87 args w
theorem Aic:Enters Tryz.prog 88:=fun args w=>Tryz.call88 args w
theorem Xn:Enters Tryz.prog 89:=fun args w=>Tryz.call89 args w
theorem Aib:Enters Tryz.prog 90:=fun args w=>Tryz.call90 args w
theorem Aia:Enters Tryz.prog 91:=fun args w=>Tryz.call91 args w
theorem Ai9:Enters Tryz.prog 92:=fun args w=>Tryz.call92 args w
theorem Ai8:Enters Tryz.prog 93:=fun args w=>Tryz.call93 args w
theorem Ai7:Enters Tryz.prog 94:=fun args w=>Tryz.call94 args w
theorem Xm:Enters Tryz.prog 95:=fun args w=>Tryz.call95 args w
theorem Ai6:Enters Tryz.prog 96:=fun args w=>Tryz.call96 args w
theorem Ai5:Enters Tryz.prog 97:=fun args w=>Tryz.call97 args w
theorem Xl:Enters Tryz.prog 98:=fun args w=>Tryz.call98 args w
theorem Ai4:Enters Tryz.prog 99:=fun args w=>Tryz.call99 args w
theorem Adp:Enters Tryz.prog 100:=fun args w=>Tryz.call100 args w
theorem Ado:Enters Tryz.prog 101:=fun args w=>Tryz.call101 args w
theorem Adn:Enters Tryz.prog 102:=fun args w=>Tryz.call102 args w
theorem Adm:Enters Tryz.prog 103:=fun args w=>Tryz.call103 args w
theorem Adl:Enters Tryz.prog 104:=fun args w=>Tryz.call104 args w
theorem Adk:Enters Tryz.prog 105:=fun args w=>Tryz.call105 args w
theorem Adj:Enters Tryz.prog 106:=fun args w=>Tryz.call106 args w
theorem Adi:Enters Tryz.prog 107:=fun args w=>Tryz.call107 args w
theorem Adh:Enters Tryz.prog 108:=fun args w=>Tryz.call108 args w
theorem Adg:Enters Tryz.prog 109:=fun args w=>Tryz.call109 args w
theorem Adf:Enters Tryz.prog 110:=fun args w=>Tryz.call110 args w
theorem Ade:Enters Tryz.prog 111:=fun args w=>Tryz.call111 args w
theorem Adc:Enters Tryz.prog 112:=fun args w=>Tryz.call112 args w
theorem Adb:Enters Tryz.prog 113:=fun args w=>Tryz.call113 args w
theorem Ada:Enters Tryz.prog 114:=fun args w=>Tryz.call114 args w
theorem Ad9:Enters Tryz.prog 115:=fun args w=>Tryz.call115 args w
theorem Ad8:Enters Tryz.prog 116:=fun args w=>Tryz.call116 args w
theorem Ad7:Enters Tryz.prog 117:=fun args w=>Tryz.call117 args w
theorem Ad6:Enters Tryz.prog 118:=fun args w=>Tryz.call118 args w
theorem Ad5:Enters Tryz.prog 119:=fun args w=>Tryz.call119 args w
theorem Ad4:Enters Tryz.prog 120:=fun args w=>Tryz.call120 args w
theorem Ad3:Enters Tryz.prog 123:=fun args w=>Tryz.call123 args w
theorem Ud:Enters Tryz.prog 124:=fun args w=>Tryz.call124 args w
theorem Ad2:Enters Tryz.prog 125:=fun args w=>Tryz.call125 args w
theorem Ad1:Enters Tryz.prog 126:=fun args w=>Tryz.call126 args w
theorem Ad0:Enters Tryz.prog 127:=fun args w=>Tryz.call127 args w
theorem Acz:Enters Tryz.prog 128:=fun args w=>Tryz.call128 args w
theorem Acy:Enters Tryz.prog 130:=fun args w=>Tryz.call130 args w
theorem Pe:Enters Tryz.prog 131:=fun args w=>Tryz.call131 args w
theorem Uc:Enters Tryz.prog 132:=fun args w=>Tryz.call132 args w
theorem Acx:Enters Tryz.prog 133:=fun args w=>Tryz.call133 args w
theorem Acw:Enters Tryz.prog 138:=fun args w=>Tryz.call138 args w
theorem Acv:Enters Tryz.prog 139:=fun args w=>Tryz.call139 args w
theorem Acu:Enters Tryz.prog 140:=fun args w=>Tryz.call140 args w
theorem Acs:Enters Tryz.prog 141:=fun args w=>Tryz.call141 args w
theorem Acr:Enters Tryz.prog 142:=fun args w=>Tryz.call142 args w
theorem Acq:Enters Tryz.prog 143:=fun args w=>Tryz.call143 args w
theorem Acp:Enters Tryz.prog 144:=fun args w=>Tryz.call144 args w
theorem Aco:Enters Tryz.prog 150:=fun args w=>Tryz.call150 args w
theorem Acn:Enters Tryz.prog 154:=fun args w=>Tryz.call154 args w
theorem Acm:Enters Tryz.prog 155:=fun args w=>Tryz.call155 args w
theorem Ub:Enters Tryz.prog 156:=fun args w=>Tryz.call156 args w
theorem Acl:Enters Tryz.prog 157:=fun args w=>Tryz.call157 args w
theorem Ack:Enters Tryz.prog 158:=fun args w=>Tryz.call158 args w
theorem Acj:Enters Tryz.prog 163:=fun args w=>Tryz.call163 args w
theorem Aci:Enters Tryz.prog 164:=fun args w=>Tryz.call164 args w
theorem Ach:Enters Tryz.prog 169:=fun args w=>Tryz.call169 args w
theorem Acg:Enters Tryz.prog 170:=fun args w=>Tryz.call170 args w
theorem Ua:Enters Tryz.prog 171:=fun args w=>Tryz.call171 args w
theorem Acf:Enters Tryz.prog 172:=fun args w=>Tryz.call172 args w
theorem Ace:Enters Tryz.prog 178:=fun args w=>Tryz.call178 args w
theorem Acd:Enters Tryz.prog 179:=fun args w=>Tryz.call179 args w
theorem Acb:Enters Tryz.prog 186:=fun args w=>Tryz.call186 args w
theorem mixed:Tryz.prog.follows .mixedOrders=true:=by kernel_rfl
attribute [go_sem] ti2 ti3 ti4 ti5 ti9 Avx Alg Avw
attribute [go_sem] Avv Afb Avu Avt Avs Avr
attribute [go_sem] Avq Avp Avo Avn Avm Avl Alf
attribute [go_sem] Avk Avj Avi
attribute [go_sem] Avh Avg Asb Asa As9 Auh Aoc
attribute [go_sem] Aob Aoa As8 As7 As6
attribute [go_sem] As5
attribute [go_sem] Asi Agg Tryz.ntmps5
attribute [go_sem] Tryz.results5 Tryz.ntmps8 Tryz.results8 Tryz.ntmps10 Tryz.results10
attribute [go_sem] Tryz.ntmps13 Tryz.results13
attribute [go_sem] Tryz.ntmps18 Tryz.results18 Tryz.ntmps19 Tryz.results19 Tryz.ntmps20 Tryz.results20 Tryz.ntmps21 Tryz.results21 Tryz.ntmps22 Tryz.results22 Tryz.ntmps23
attribute [go_sem] Tryz.results23 Tryz.ntmps24 Tryz.results24 Tryz.ntmps25 Tryz.results25 Tryz.ntmps26 Tryz.results26 Tryz.ntmps27 Tryz.results27 Tryz.ntmps28 Tryz.results28 Tryz.ntmps29
attribute [go_sem] Tryz.results29 Tryz.ntmps30 Tryz.results30 Tryz.ntmps31 Tryz.results31 Tryz.ntmps32 Tryz.results32
attribute [go_sem] Tryz.ntmps40 Tryz.results40 Tryz.ntmps41
attribute [go_sem] Tryz.results41 Tryz.ntmps42 Tryz.results42 Tryz.ntmps43 Tryz.results43 Tryz.ntmps44 Tryz.results44 Tryz.ntmps45 Tryz.results45 Tryz.ntmps46 Tryz.results46 Tryz.ntmps47
attribute [go_sem] Tryz.results47 Tryz.ntmps48 Tryz.results48 Tryz.ntmps49 Tryz.results49 Tryz.ntmps50 Tryz.results50 Tryz.ntmps51 Tryz.results51 Tryz.ntmps52 Tryz.results52 Tryz.ntmps53
attribute [go_sem] Tryz.results53 Tryz.ntmps54 Tryz.results54 Tryz.ntmps55 Tryz.results55 Tryz.ntmps56 Tryz.results56 Tryz.ntmps57 Tryz.results57 Tryz.ntmps58 Tryz.results58 Tryz.ntmps59
attribute [go_sem] Tryz.results59 Tryz.ntmps60 Tryz.results60 Tryz.ntmps61 Tryz.results61 Tryz.ntmps62 Tryz.results62 Tryz.ntmps63 Tryz.results63 Tryz.ntmps64 Tryz.results64 Tryz.ntmps65
attribute [go_sem] Tryz.results65 Tryz.ntmps66 Tryz.results66 Tryz.ntmps67 Tryz.results67 Tryz.ntmps68 Tryz.results68 Tryz.ntmps70 Tryz.results70
attribute [go_sem] Tryz.ntmps72 Tryz.results72 Tryz.ntmps73 Tryz.results73 Tryz.ntmps75 Tryz.results75
attribute [go_sem] Tryz.ntmps82 Tryz.results82 Tryz.ntmps83
attribute [go_sem] Tryz.results83 Tryz.ntmps84 Tryz.results84 Tryz.ntmps85 Tryz.results85 Tryz.ntmps86 Tryz.results86 Tryz.ntmps87 Tryz.results87 Tryz.ntmps88 Tryz.results88 Tryz.ntmps89
attribute [go_sem] Tryz.results89 Tryz.ntmps90 Tryz.results90 Tryz.ntmps91 Tryz.results91 Tryz.ntmps92 Tryz.results92 Tryz.ntmps93 Tryz.results93 Tryz.ntmps94 Tryz.results94 Tryz.ntmps95
attribute [go_sem] Tryz.results95 Tryz.ntmps96 Tryz.results96 Tryz.ntmps97 Tryz.results97 Tryz.ntmps98 Tryz.results98 Tryz.ntmps99 Tryz.results99 Tryz.ntmps100 Tryz.results100 Tryz.ntmps101
attribute [go_sem] Tryz.results101 Tryz.ntmps102 Tryz.results102 Tryz.ntmps103 Tryz.results103 Tryz.ntmps104 Tryz.results104 Tryz.ntmps105 Tryz.results105 Tryz.ntmps106 Tryz.results106 Tryz.ntmps107
attribute [go_sem] Tryz.results107 Tryz.ntmps108 Tryz.results108 Tryz.ntmps109 Tryz.results109 Tryz.ntmps110 Tryz.results110 Tryz.ntmps111 Tryz.results111 Tryz.ntmps112 Tryz.results112 Tryz.ntmps113
attribute [go_sem] Tryz.results113 Tryz.ntmps114 Tryz.results114 Tryz.ntmps115 Tryz.results115 Tryz.ntmps116 Tryz.results116 Tryz.ntmps117 Tryz.results117 Tryz.ntmps118 Tryz.results118 Tryz.ntmps119
attribute [go_sem] Tryz.results119 Tryz.ntmps120 Tryz.results120 Tryz.ntmps123 Tryz.results123 Tryz.ntmps124 Tryz.results124 Tryz.ntmps125
attribute [go_sem] Tryz.results125 Tryz.ntmps126 Tryz.results126 Tryz.ntmps127 Tryz.results127 Tryz.ntmps128 Tryz.results128 Tryz.ntmps130 Tryz.results130 Tryz.ntmps131
attribute [go_sem] Tryz.results131 Tryz.ntmps132 Tryz.results132 Tryz.ntmps133 Tryz.results133
attribute [go_sem] Tryz.ntmps138 Tryz.results138 Tryz.ntmps139 Tryz.results139 Tryz.ntmps140 Tryz.results140 Tryz.ntmps141 Tryz.results141 Tryz.ntmps142 Tryz.results142 Tryz.ntmps143
attribute [go_sem] Tryz.results143 Tryz.ntmps144 Tryz.results144
attribute [go_sem] Tryz.ntmps150 Tryz.results150 Tryz.ntmps154 Tryz.results154 Tryz.ntmps155
attribute [go_sem] Tryz.results155 Tryz.ntmps156 Tryz.results156 Tryz.ntmps157 Tryz.results157 Tryz.ntmps158 Tryz.results158
attribute [go_sem] Tryz.ntmps163 Tryz.results163 Tryz.ntmps164 Tryz.results164 Tryz.ntmps169
attribute [go_sem] Tryz.results169 Tryz.ntmps170 Tryz.results170 Tryz.ntmps171 Tryz.results171 Tryz.ntmps172 Tryz.results172
attribute [go_sem] Tryz.ntmps178 Tryz.results178 Tryz.ntmps179 Tryz.results179
attribute [go_sem] Tryz.ntmps186 Tryz.results186
attribute [go_sem ↓] reduceIte
attribute [go_sem] Nat.reduceLT Nat.reduceLeDiff Nat.reduceEqDiff Nat.reduceAdd Nat.reduceMul Nat.reduceSub reduceCtorEq Int.reduceLT Int.reduceLE Int.reduceEq Int.reduceToNat decide_true decide_false Int.reduceNeg Int.cast_ofNat_Int sg AO.sg Option.isNone_none
def Ag (l:List Int):List (List Pd):=l.map fun n=>[.int .i64 n]
def AV (l:List (List UInt8)):List (List Pd):=l.map fun s=>[.str s]
theorem Ab (l:List Int):(Ag l).length=l.length:=by simp[Ag]
theorem AD (l:List Int) (i:Nat) (h:i<l.length):(Ag l).getD i []=[.int .i64 (l.getD i 0)]:=by simp[Ag,List.getD,h]
theorem Aq (l:List (List UInt8)):(AV l).length=l.length:=by simp[AV]
theorem BT (l:List (List UInt8)) (i:Nat) (h:i<l.length):(AV l).getD i []=[.str (l.getD i [])]:=by simp[AV,List.getD,h]
theorem Cq (l:List Int) (x:Int):Ag (l++[x])=Ag l++[[.int .i64 x]]:=by simp[Ag]
theorem CP (l:List (List UInt8)) (x:List UInt8):AV (l++[x])=AV l++[[.str x]]:=by simp[AV]
theorem EM (l:List Int) (n:Nat) (h:l.length≤n):(Ag l).take n=Ag l:=List.take_of_length_le (by simpa [Ag] using h)
theorem G5 (l:List (List UInt8)) (n:Nat) (h:l.length≤n):(AV l).take n=AV l:=List.take_of_length_le (by simpa [AV] using h)
theorem Cf (n:Nat) (x:List Pd) (h:x.length=n):I1 n [x]:=by simp[I1,h]
theorem N5 (l:List (List UInt8)) (i:Nat) (x:List UInt8):AV (l.set i x)=(AV l).set i [.str x]:=by simp[AV,List.map_set]
theorem Bt (l:List Int) (i:Nat) (x:Int):Ag (l.set i x)=(Ag l).set i [.int .i64 x]:=by simp[Ag,List.map_set]
theorem A7 {α:Type} (l:List α) (i:Nat) (x:α) (h:i<l.length):l.getD i x∈l:=by simp only[List.getD,List.getElem?_eq_getElem h,Option.getD_some];exact List.getElem_mem h
theorem Bn {α:Type} (l:List α) (i:Nat) (x:α) (h:i<l.length):l.drop i=l.getD i x::l.drop (i+1):=by rw[List.drop_eq_getElem_cons h];simp[List.getD,h]
def Akw (x:Int):Prop:=-9223372036854775808≤x∧x≤9223372036854775807
theorem As (i:Nat) (h:i<9223372036854775807):IntKind.i64.wrap ((i:Int)+1)=((i+1:Nat):Int):=by rw[An]<;>omega
def cut (v n:Int):Int:=if n≤1 then 0 else if v.tmod n<0 then v.tmod n+n else v.tmod n
theorem Aqz (v n:Int):0≤cut v n∧(cut v n<n∨cut v n=0):=by
 unfold cut;split
 · omega
 · have h1:=Int.tmod_lt_of_pos v (show 0<n by omega);have h2:=Int.lt_tmod_of_pos v (show 0<n by omega);split<;>omega
theorem Ak1 (v n:Int) (hn:Akw n):Aj Tryz.prog 28 [.p (.int .i64 v),.p (.int .i64 n)] [] fun h r=>h=[]∧r= .p (.int .i64 (cut v n)):=by
 unfold Akw at hn;refine Ak Tryz.func28 rfl Ajc (by simp[Tryz.f28]) ?_;simp only[go_sem];refine AK (fun h1=>?_) (fun h1=>?_)
 · simp only[go_sem];simp at h1;simp[cut,h1]
 · simp only[go_sem];simp at h1;refine ⟨by omega,?_⟩;refine AK (fun h2=>?_) (fun h2=>?_)
   · simp at h2;have h3:IntKind.i64.wrap (v.tmod n+n)=v.tmod n+n:=by
       have h4:=Int.tmod_lt_of_pos v (show 0<n by omega);have h5:=Int.lt_tmod_of_pos v (show 0<n by omega);rw[An]<;>omega
     simp only[go_sem,h3];simp only[cut,h2,if_true,true_and];rw[if_neg (by omega)]
   · simp only[go_sem];simp at h2;simp only[cut,true_and];rw[if_neg (by omega),if_neg (by omega)]
def Kx (l:List Int) (at_:Nat) (n:Int):Int:=cut (if at_<l.length then l.getD at_ 0 else ((at_:Int)*7).tmod 11) n
theorem Agb (l:List Int) (at_:Nat) (n:Int):0≤Kx l at_ n∧(Kx l at_ n<n∨Kx l at_ n=0):=Aqz _ _
theorem Bb (l:List Int) (at_:Nat) (n:Int) (hn:0<n):∃k:Nat,Kx l at_ n=(k:Int)∧(k:Int)<n:=by
 have h:=Agb l at_ n;exact ⟨(Kx l at_ n).toNat,by omega,by omega⟩
theorem AX (n:Int) (h0:0≤n) (h1:n≤1000000):Akw n:=by unfold Akw;omega
theorem DI (l:List UInt8):(Co l).length=l.length:=by simp[Co]
theorem XC (l:List UInt8) (i:Nat) (h:i<l.length):(Co l).getD i []=[.int .u8 (l.getD i 0).toNat]:=by simp[Co,List.getD,h]
def Br (l:List Int) (at_:Nat):List D:=[.p (.sl (Ag l)),.p (.int .i64 (at_:Nat))]
theorem Bo (l:List Int) (at_:Nat) (n:Int) (G4:at_<1000000000000) (hn:Akw n):
   Aj Tryz.prog 44 [.ptr 1000000 0,.p (.int .i64 n)] [(1000000,.box (Br l at_))] fun h r=>h=[(1000000,.box (Br l (at_+1)))]∧r= .p (.int .i64 (Kx l at_ n)):=by
 refine Ak Tryz.func44 rfl Aj5 (by simp[Tryz.f44]) ?_;have h7:IntKind.i64.wrap ((at_:Int)*7)=(at_:Int)*7:=by rw[An]<;>omega
 have h8:IntKind.i64.wrap ((at_:Int)+1)=((at_+1:Nat):Int):=by rw[An]<;>omega
 unfold Br;simp only[go_sem,h7];refine BB [(1000000,.box [.p (.sl (Ag l)),.p (.int .i64 (at_:Nat))])] mixed (p:=[(0,0),(1,0),(2,0),(3,0),(4,0),(5,0),(6,0),(7,0),(8,0),(9,0)]) (by kernel_rfl) (by simp[Av,get]) ?_;simp only[go_sem,h7,Ab];refine AK (fun h1=>?_) (fun h1=>?_)
 · have AL:at_<l.length:=by simp at h1;omega
   refine BB [(1000000,.box [.p (.sl (Ag l)),.p (.int .i64 (at_:Nat))])] mixed (p:=[(0,0),(1,0),(2,0),(3,0),(4,0),(5,0),(6,0),(7,0),(8,0),(9,0),(10,0)]) (by kernel_rfl) (by simp[Av,get]) ?_;simp only[go_sem,h8,Ab,Int.toNat_natCast,AD l at_ AL];refine ⟨by omega,Au (Ak1 _ _ hn) ?_⟩;rintro h' r ⟨rfl,rfl⟩;simp only[go_sem,h8];simp[Kx,AL]
 · simp only[go_sem,h8];refine Au (Ak1 _ _ hn) ?_;rintro h' r ⟨rfl,rfl⟩;simp only[go_sem,h8];have:¬at_<l.length:=by simp at h1;omega
   simp[Kx,this]
structure Dc where
 word:Int
 line:Int
 names:List (List UInt8)
 AJ:List Int
 deriving DecidableEq
def Im:Dc:=⟨0,0,[],[]⟩
def Dc.d (x:Dc):D:= .agg [.p (.int .i64 x.word),.p (.int .i64 x.line),.p (.sl (AV x.names)),.p (.sl (Ag x.AJ))]
structure Ln where
 num:Int
 fs:List (List UInt8)
 deriving DecidableEq
def TE:Ln:=⟨0,[]⟩
def CN (l:List Ln):List (List Pd):=l.map fun x=>[.int .i64 x.num,.sl (AV x.fs)]
theorem A5 (l:List Ln):(CN l).length=l.length:=by simp[CN]
theorem IT (l:List Ln) (i:Nat) (h:i<l.length):(CN l).getD i []=[.int .i64 (l.getD i TE).num,.sl (AV (l.getD i TE).fs)]:=by simp[CN,List.getD,h]
theorem IS (l:List Ln) (x:Ln):CN (l++[x])=CN l++[[.int .i64 x.num,.sl (AV x.fs)]]:=by simp[CN]
theorem Pg (l:List Ln) (n:Nat) (h:l.length≤n):(CN l).take n=CN l:=List.take_of_length_le (by simpa [CN] using h)
def BO (l:List Dc):List (List Pd):=l.map fun x=>[.int .i64 x.word,.int .i64 x.line,.sl (AV x.names),.sl (Ag x.AJ)]
theorem A8 (l:List Dc):(BO l).length=l.length:=by simp[BO]
theorem R9 (l:List Dc) (i:Nat) (h:i<l.length):(BO l).getD i []=[.int .i64 (l.getD i Im).word,.int .i64 (l.getD i Im).line,.sl (AV (l.getD i Im).names),.sl (Ag (l.getD i Im).AJ)]:=by simp[BO,List.getD,h]
theorem DW (l:List Dc) (x:Dc):BO (l++[x])=BO l++[[.int .i64 x.word,.int .i64 x.line,.sl (AV x.names),.sl (Ag x.AJ)]]:=by simp[BO]
theorem Ady (l:List Dc) (n:Nat) (h:l.length≤n):(BO l).take n=BO l:=List.take_of_length_le (by simpa [BO] using h)
def El (c:Int):Bool:=decide (97≤c∧c≤122)||decide (65≤c∧c≤90)
theorem Ri (c:Int):Aj Tryz.prog 82 [.p (.int .u8 c)] [] fun h r=>h=[]∧r= .p (.bool (El c)):=by
 refine Ak Tryz.func82 rfl Aih (by simp[Tryz.f82]) ?_;by_cases h1:97≤c<;>by_cases h2:c≤122<;>by_cases h3:65≤c<;>by_cases h4:c≤90<;>(try omega)<;>
 · simp only[go_sem,h1,h2,h3,h4];simp[El,h1,h2,h3,h4]
theorem Rh (c:Int):Aj Tryz.prog 120 [.p (.int .u8 c)] [] fun h r=>h=[]∧r= .p (.bool (El c)):=by
 refine Ak Tryz.func120 rfl Ad4 (by simp[Tryz.f120]) ?_;by_cases h1:97≤c<;>by_cases h2:c≤122<;>by_cases h3:65≤c<;>by_cases h4:c≤90<;>(try omega)<;>
 · simp only[go_sem,h1,h2,h3,h4];simp[El,h1,h2,h3,h4]
def Yx (c:Int):Bool:=El c||decide (48≤c∧c≤57)||decide (c=45)||decide (c=95)
def Bs (l:List UInt8):Bool:=match l with
 | []=>false
 | b::_=>decide (l.length≤12)&&El b.toNat&&l.all fun c=>Yx c.toNat
theorem C6 (c:Int):Yx c=(El c||(decide (48≤c)&&decide (c≤57))||decide (c=45)||decide (c=95)):=by simp[Yx]
theorem Ny (l:List UInt8):Aj Tryz.prog 42 [.p (.str l)] [] fun h r=>h=[]∧r= .p (.bool (Bs l)):=by
 refine Ak Tryz.func42 rfl Aj7 (by simp[Tryz.f42]) ?_;cases l with
 | nil=>
   simp only[go_sem];rfl
 | cons b l=>
   by_cases hL:(12:Int)<((l.length+1:Nat):Int)
   · simp only[go_sem,hL];have:¬l.length+1≤12:=by omega
     simp[Bs,this]
   · simp only[go_sem,hL,List.getD_cons_zero];refine ⟨by omega,Au (Ri _) ?_⟩;rintro h' r ⟨rfl,rfl⟩;simp only[go_sem,hL];cases hb:El b.toNat
     · simp only[go_sem];simp[Bs,hb]
     · simp only[go_sem];refine Yd rfl ti9 Alf ti5 rfl ?_;simp only[go_sem,DI];refine Ao (fun i=>⟨[(19,.p (.sl (Co (b::l)))),(20,.p (.int .i64 ((l.length+1:Nat):Int))),(21,.p (.int .i64 (i:Nat)))],[],45⟩) (fun i=>i≤l.length+1∧∀j,j<i→Yx ((b::l).getD j 0).toNat=true) (fun i=>l.length+1 - i) 0 ⟨Nat.zero_le _,by simp⟩
         (Wk.forget (by simp[Le,AG,Av,get,Aa,Ac,Ad,D.ids])) ?_
       rintro i n ⟨hi,he⟩ ih;simp only[go_sem,DI];refine AK (fun h2=>?_) (fun h2=>?_)
       · have AL:i<(b::l).length:=by simp at h2 ⊢;omega
         simp only[go_sem,DI,Int.toNat_natCast,XC (b::l) i AL];have hw:=As i (by omega);generalize r0:(((b::l).getD i 0).toNat:Int)=c;refine ⟨by simp at AL;omega,Au (Ri _) ?_⟩;rintro h' r ⟨rfl,rfl⟩;have M5:Yx c=false→Bs (b::l)=false:=by
           intro hf;have:((b::l).all fun c=>Yx c.toNat)=false:=by
             rw[Bool.eq_false_iff];intro ht;have:=List.all_eq_true.1 ht ((b::l).getD i 0) (by simp only[List.getD,List.getElem?_eq_getElem AL,Option.getD_some];exact List.getElem_mem AL);rw[r0,hf] at this;cases this
           simp only[Bs,this,Bool.and_false]
         have Rw:Yx c=true→∀j,j<i+1→Yx ((b::l).getD j 0).toNat=true:=by
           intro ht j hj;rcases Nat.lt_succ_iff_lt_or_eq.1 hj with hj | rfl
           · exact he j hj
           · rw[r0];exact ht
         have hle:i+1≤l.length+1:=by simp only[List.length_cons] at AL;omega
         cases Zu:El c
         · by_cases h48:c<48<;>by_cases h57:57<c<;>by_cases h45:c=45<;>by_cases h95:c=95<;>(try omega)<;>
           · simp only[go_sem,Zu,h48,h57,h45,h95,hw];first
               | exact ⟨trivial,by rw[M5 (by simp[C6,Zu];omega)]⟩
               | exact ⟨rfl,by rw[M5 (by simp[C6,Zu];omega)]⟩
               | (rw[M5 (by simp[C6,Zu];omega)])
               | exact ih (i+1) _ ⟨hle,Rw (by simp[C6,Zu];omega)⟩ (by omega) (Wk.forget (by simp[Le,AG,Av,get,Aa,Ac,Ad,D.ids]))
         · simp only[go_sem,Zu,hw];exact ih (i+1) _ ⟨hle,Rw (by simp[C6,Zu])⟩ (by omega) (Wk.forget (by simp[Le,AG,Av,get,Aa,Ac,Ad,D.ids]))
       · simp only[go_sem];have C0:i=l.length+1:=by simp at h2;omega
         have B4:((b::l).all fun c=>Yx c.toNat)=true:=by
           refine List.all_eq_true.2 fun x hx=>?_;obtain ⟨j,hj,rfl⟩:=List.mem_iff_getElem.1 hx;have:=he j (by simp at hj;omega)
           simpa only[List.getD,List.getElem?_eq_getElem hj,Option.getD_some] using this
         have S3:l.length+1≤12:=by omega
         simp only[Bs,B4,hb,List.length_cons,S3,decide_true,Bool.and_self,and_self]
theorem WJ (l:List UInt8):Aj Tryz.prog 73 [.p (.str l)] [] fun h r=>h=[]∧r= .p (.bool (Bs l)):=by
 refine Ak Tryz.func73 rfl Aij (by simp[Tryz.f73]) ?_;cases l with
 | nil=>
   simp only[go_sem];rfl
 | cons b l=>
   by_cases hL:(12:Int)<((l.length+1:Nat):Int)
   · simp only[go_sem,hL];have:¬l.length+1≤12:=by omega
     simp[Bs,this]
   · simp only[go_sem,hL,List.getD_cons_zero];refine ⟨by omega,Au (Rh _) ?_⟩;rintro h' r ⟨rfl,rfl⟩;simp only[go_sem,hL];cases hb:El b.toNat
     · simp only[go_sem];simp[Bs,hb]
     · simp only[go_sem];refine Ao (fun i=>⟨[(0,.p (.str (b::l))),(3,.p (.int .i64 (i:Nat)))],[],46⟩) (fun i=>i≤l.length+1∧∀j,j<i→Yx ((b::l).getD j 0).toNat=true) (fun i=>l.length+1 - i) 0 ⟨Nat.zero_le _,by simp⟩
         (Wk.forget (by simp[Le,AG,Av,get,Aa,Ac,Ad,D.ids])) ?_
       rintro i n ⟨hi,he⟩ ih;simp only[go_sem];refine AK (fun h2=>?_) (fun h2=>?_)
       · have AL:i<(b::l).length:=by simp at h2 ⊢;omega
         simp only[go_sem,Int.toNat_natCast];have hw:=As i (by omega);generalize r0:(((b::l).getD i 0).toNat:Int)=c;refine ⟨by simp at AL;omega,Au (Rh _) ?_⟩;rintro h' r ⟨rfl,rfl⟩;have M5:Yx c=false→Bs (b::l)=false:=by
           intro hf;have:((b::l).all fun c=>Yx c.toNat)=false:=by
             rw[Bool.eq_false_iff];intro ht;have:=List.all_eq_true.1 ht ((b::l).getD i 0) (by simp only[List.getD,List.getElem?_eq_getElem AL,Option.getD_some];exact List.getElem_mem AL);rw[r0,hf] at this;cases this
           simp only[Bs,this,Bool.and_false]
         have Rw:Yx c=true→∀j,j<i+1→Yx ((b::l).getD j 0).toNat=true:=by
           intro ht j hj;rcases Nat.lt_succ_iff_lt_or_eq.1 hj with hj | rfl
           · exact he j hj
           · rw[r0];exact ht
         have hle:i+1≤l.length+1:=by simp only[List.length_cons] at AL;omega
         cases Zu:El c
         · by_cases h48:c<48<;>by_cases h57:57<c<;>by_cases h45:c=45<;>by_cases h95:c=95<;>(try omega)<;>
           · simp only[go_sem,Zu,h48,h57,h45,h95,hw];first
               | exact ⟨trivial,by rw[M5 (by simp[C6,Zu];omega)]⟩
               | exact ⟨rfl,by rw[M5 (by simp[C6,Zu];omega)]⟩
               | (rw[M5 (by simp[C6,Zu];omega)])
               | exact ih (i+1) _ ⟨hle,Rw (by simp[C6,Zu];omega)⟩ (by omega) (Wk.forget (by simp[Le,AG,Av,get,Aa,Ac,Ad,D.ids]))
         · simp only[go_sem,Zu,hw];exact ih (i+1) _ ⟨hle,Rw (by simp[C6,Zu])⟩ (by omega) (Wk.forget (by simp[Le,AG,Av,get,Aa,Ac,Ad,D.ids]))
       · simp only[go_sem];have C0:i=l.length+1:=by simp at h2;omega
         have B4:((b::l).all fun c=>Yx c.toNat)=true:=by
           refine List.all_eq_true.2 fun x hx=>?_;obtain ⟨j,hj,rfl⟩:=List.mem_iff_getElem.1 hx;have:=he j (by simp at hj;omega)
           simpa only[List.getD,List.getElem?_eq_getElem hj,Option.getD_some] using this
         have S3:l.length+1≤12:=by omega
         simp only[Bs,B4,hb,List.length_cons,S3,decide_true,Bool.and_self,and_self]
def NS (s p:List UInt8):Bool:=decide (p.length≤s.length)&&decide (s.take p.length=p)
theorem Vo (s p:List UInt8):Aj Tryz.prog 164 [.p (.str s),.p (.str p)] [] fun h r=>h=[]∧r= .p (.bool (NS s p)):=by
 refine Ak Tryz.func164 rfl Aci (by simp[Tryz.f164]) ?_;by_cases h1:(p.length:Int)≤s.length
 · simp only[go_sem,h1,Int.toNat_natCast];refine ⟨by omega,?_⟩;have h2:p.length≤s.length:=by omega
   simp[NS,h2]
 · simp only[go_sem,h1];have h2:¬p.length≤s.length:=by omega
   simp[NS,h2]
theorem S6 (s p:List UInt8):Aj Tryz.prog 170 [.p (.str s),.p (.str p)] [] fun h r=>h=[]∧r= .BA [.p (.str (if NS s p then s.drop p.length else s)),.p (.bool (NS s p))]:=by
 refine Ak Tryz.func170 rfl Acg (by simp[Tryz.f170]) ?_;simp only[go_sem];refine Au (Vo s p) ?_;rintro h' r ⟨rfl,rfl⟩;simp only[go_sem];cases hp:NS s p
 · simp only[go_sem];refine Bc ?_;simp only[go_sem];try simp
 · simp only[go_sem,Int.toNat_natCast];have h1:p.length≤s.length:=by
     simp only[NS,Bool.and_eq_true,decide_eq_true_eq] at hp;exact hp.1
   refine ⟨by omega,Bc ?_⟩;simp only[go_sem];try simp
theorem Vy (s p:List UInt8):Aj Tryz.prog 140 [.p (.str s),.p (.str p)] [] fun h r=>h=[]∧r= .BA [.p (.str (if NS s p then s.drop p.length else s)),.p (.bool (NS s p))]:=by
 refine Ak Tryz.func140 rfl Acu (by simp[Tryz.f140]) ?_;simp only[go_sem];refine Au (S6 s p) ?_;rintro h' r ⟨rfl,rfl⟩;simp only[go_sem];refine Bc ?_;simp only[go_sem]
def It (l:List UInt8):Int:=l.foldl (fun n c=>10*n+((c.toNat:Int) - 48)) 0
def Ae3 (c:Int):Bool:=decide (48≤c)&&decide (c≤57)
def r7 (l:List UInt8):Bool:=l.all fun c=>Ae3 c.toNat
def numOf (neg:Bool) (l:List UInt8):Int×Bool:=
 match l with
 | []=>(0,false)
 | b::r=>if 4<r.length+1∨((b.toNat:Int)=48∧(neg=true∨1<r.length+1)) then (0,false)
   else if r7 (b::r) then (if neg then 0 - It (b::r) else It (b::r),true) else (0,false)
def Q5 (s:List UInt8):Int×Bool:=if NS s [45] then numOf true (s.drop 1) else numOf false s
theorem z8 (l:List UInt8) (i:Nat) (h:i<l.length):It (l.take (i+1))=10*It (l.take i)+(((l.getD i 0).toNat:Int) - 48):=by
 unfold It;rw[List.take_succ_eq_append_getElem h,List.foldl_append];simp[List.getD,h]
theorem p10 (i:Nat) (h:i≤4):(10:Int) ^ i≤10000:=by
 rcases i with _ | _ | _ | _ | _ | i<;>simp at*<;>omega
theorem YX (s:List UInt8):Aj Tryz.prog 108 [.p (.str s)] [] fun h r=>h=[]∧r= .BA [.p (.int .i64 (Q5 s).1),.p (.bool (Q5 s).2)]:=by
 refine Ak Tryz.func108 rfl Adh (by simp[Tryz.f108]) ?_;simp only[go_sem];refine Au (Vy s [45]) ?_;rintro h' r ⟨rfl,rfl⟩;simp only[go_sem];have key:Q5 s=numOf (NS s [45]) (if NS s [45]=true then List.drop 1 s else s):=by
   unfold Q5;cases NS s [45]<;>rfl
 rw[key];clear key;generalize NS s [45]=neg;generalize (if neg=true then List.drop 1 s else s)=l;cases l with
 | nil=>
   simp only[go_sem];refine Bc ?_;simp only[go_sem];try simp[numOf]
 | cons b l=>
   by_cases hL:(4:Int)<((l.length+1:Nat):Int)
   · simp only[go_sem,hL];refine Bc ?_;simp only[go_sem];have:4<l.length+1:=by omega
     try simp[numOf,this]
   · have hL':¬4<l.length+1:=by omega
     have hlen:(b::l).length≤4:=by simp only[List.length_cons];omega
     have bad:∀c:Int,(∃i,i<(b::l).length∧(((b::l).getD i 0).toNat:Int)=c)→Ae3 c=false→r7 (b::l)=false:=by
       rintro c ⟨i,hi,hc⟩ hf;rw[Bool.eq_false_iff];intro ht;have:=List.all_eq_true.1 ht ((b::l).getD i 0) (by simp only[List.getD,List.getElem?_eq_getElem hi,Option.getD_some];exact List.getElem_mem hi);simp only[hc,hf] at this;cases this
     by_cases HS:(b.toNat:Int)=48∧(neg=true∨1<l.length+1)
     · obtain ⟨h48,hn⟩:=HS;have Qd:numOf neg (b::l)=(0,false):=by simp only[numOf,h48,hn,and_self,or_true,if_true]
       cases neg
       · have h1:(1:Int)<((l.length+1:Nat):Int):=by simp at hn;omega
         simp only[go_sem,hL,List.getD_cons_zero,h48,h1];refine ⟨by omega,Bc ?_⟩;simp only[go_sem,Qd]
       · simp only[go_sem,hL,List.getD_cons_zero,h48];refine ⟨by omega,Bc ?_⟩;simp only[go_sem,Qd]
     · have Qd:numOf neg (b::l)=if r7 (b::l) then (if neg then 0 - It (b::l) else It (b::l),true) else (0,false):=by
         simp only[numOf,hL',HS,or_self,if_false]
       have Ahl:((b.toNat:Int)≠48)∨((b.toNat:Int)=48∧neg=false∧¬(1:Int)<((l.length+1:Nat):Int)):=by
         by_cases h:(b.toNat:Int)=48
         · right;refine ⟨h,?_,?_⟩
           · cases neg
             · rfl
             · exact (HS ⟨h,.inl rfl⟩).elim
           · intro h1;exact HS ⟨h,.inr (by omega)⟩
         · exact .inl h
       rcases Ahl with h48 | ⟨h48,hng,h1⟩
       all_goals
         have Ah9:=Qd;first | rw[hng] at Ah9 | skip
         first
           | simp only[go_sem,hL,List.getD_cons_zero,h48,h1,hng]
           | simp only[go_sem,hL,List.getD_cons_zero,h48]
         refine ⟨by omega,Yd rfl ti9 Alf ti5 rfl ?_⟩;simp only[go_sem,DI];refine Ao (fun i=>⟨[(35,.p (.sl (Co (b::l)))),(36,.p (.int .i64 ((l.length+1:Nat):Int))),(37,.p (.int .i64 (i:Nat))),(6,.p (.int .i64 (It ((b::l).take i)))),(5,.p (.bool neg))],[],58⟩) (fun i=>i≤l.length+1∧0≤It ((b::l).take i)∧It ((b::l).take i)<10 ^ i∧∀j,j<i→Ae3 ((b::l).getD j 0).toNat=true) (fun i=>l.length+1 - i) 0 ⟨Nat.zero_le _,by simp[It],by simp[It],by simp⟩
           (Wk.forget (by first | (simp[Le,AG,Av,get,Aa,Ac,Ad,D.ids,It];done) | simp[Le,AG,Av,get,Aa,Ac,Ad,D.ids,It,hng])) ?_
         rintro i n ⟨hi,Qv,hv1,he⟩ ih;simp only[go_sem,DI];refine AK (fun h2=>?_) (fun h2=>?_)
         · have AL:i<(b::l).length:=by simp at h2 ⊢;omega
           simp only[go_sem,DI,Int.toNat_natCast,XC (b::l) i AL];have hw:=As i (by omega);have Aoj:=z8 (b::l) i AL;generalize r0:(((b::l).getD i 0).toNat:Int)=c at Aoj;refine ⟨by simp only[List.length_cons] at AL;omega,?_⟩;have hle:i+1≤l.length+1:=by simp only[List.length_cons] at AL;omega
           have hp:(10:Int) ^ i≤10000:=p10 i (by omega);have Jq:(10:Int) ^ (i+1)=10*10 ^ i:=by rw[Int.pow_succ];omega
           by_cases SG:c<48
           · simp only[go_sem,SG];refine Bc ?_;simp only[go_sem,Ah9,bad c ⟨i,AL,r0⟩ (by simp[Ae3];omega)];try simp
           · by_cases Hw:57<c
             · simp only[go_sem,SG,Hw];refine Bc ?_;simp only[go_sem,Ah9,bad c ⟨i,AL,r0⟩ (by simp[Ae3];omega)];try simp
             · have w1:IntKind.i64.wrap (10*It ((b::l).take i))=10*It ((b::l).take i):=by rw[An]<;>omega
               have w2:IntKind.u8.wrap (c - 48)=c - 48:=by rw[IntKind.wrap_u8];omega
               have w3:IntKind.i64.wrap (c - 48)=c - 48:=by rw[An]<;>omega
               have w4:IntKind.i64.wrap (10*It ((b::l).take i)+(c - 48))=It ((b::l).take (i+1)):=by rw[Aoj,An]<;>omega
               simp only[go_sem,SG,Hw,w1,w2,w3,w4,hw];refine ih (i+1) _ ⟨hle,by omega,by omega,fun j hj=>?_⟩ (by omega) (Wk.forget (by simp[Le,AG,Av,get,Aa,Ac,Ad,D.ids]));rcases Nat.lt_succ_iff_lt_or_eq.1 hj with hj | rfl
               · exact he j hj
               · rw[r0];simp[Ae3];omega
         · simp only[go_sem];have C0:i=(b::l).length:=by simp at h2 ⊢;omega
           have B4:r7 (b::l)=true:=by
             refine List.all_eq_true.2 fun x hx=>?_;obtain ⟨j,hj,rfl⟩:=List.mem_iff_getElem.1 hx;have:=he j (by omega)
             simpa only[List.getD,List.getElem?_eq_getElem hj,Option.getD_some] using this
           have hp:(10:Int) ^ i≤10000:=p10 i (by omega);rw[C0,List.take_length] at Qv hv1;rw[C0,List.take_length];have w5:IntKind.i64.wrap (0 - It (b::l))=0 - It (b::l):=by rw[←C0] at hv1;rw[An]<;>omega
           refine AK (fun h3=>?_) (fun h3=>?_)
           · simp only[go_sem,w5];refine Bc ?_;have hr3:=Qd;rw[h3] at hr3;first | (simp only[go_sem,hr3,B4,h3];done) | (simp only[go_sem,hr3,B4,h3];simp;done) | (simp[hng] at h3;done)
           · simp only[go_sem];refine Bc ?_;have hr3:=Qd;rw[h3] at hr3;simp only[go_sem,hr3,B4,h3];try simp
structure JN where
 name:List UInt8
 x:Int
 y:Int
 deriving DecidableEq
structure BY where
 name:List UInt8
 A1:Bool
 Ft:Int
 out:Int
 AH:Int
 base:Int
 deriving DecidableEq
structure Nt where
 blocks:List JN
 next:List (List Int)
 spurs:List BY
 Al:List Int
 cq:Int
 ca:Int
 cd:Int
 cp:Int
 deriving DecidableEq
def C1:JN:=⟨[],0,0⟩
def AP:BY:=⟨[],false,0,0,0,0⟩
def Bi (l:List JN):List (List Pd):=l.map fun b=>[.str b.name,.int .i64 b.x,.int .i64 b.y]
def AM (l:List (List Int)):List (List Pd):=l.map fun r=>[.sl (Ag r)]
def Bh (l:List BY):List (List Pd):=l.map fun s=>[.str s.name,.bool s.A1,.int .i64 s.Ft,.int .i64 s.out,.int .i64 s.AH,.int .i64 s.base]
theorem Ay (l:List JN):(Bi l).length=l.length:=by simp[Bi]
theorem Aw (l:List (List Int)):(AM l).length=l.length:=by simp[AM]
theorem Ax (l:List BY):(Bh l).length=l.length:=by simp[Bh]
theorem HC (l:List JN) (i:Nat) (h:i<l.length):(Bi l).getD i []=[.str (l.getD i C1).name,.int .i64 (l.getD i C1).x,.int .i64 (l.getD i C1).y]:=by simp[Bi,List.getD,h]
theorem DH (l:List (List Int)) (i:Nat) (h:i<l.length):(AM l).getD i []=[.sl (Ag (l.getD i []))]:=by simp[AM,List.getD,h]
theorem CG (l:List BY) (i:Nat) (h:i<l.length):(Bh l).getD i []=[.str (l.getD i AP).name,.bool (l.getD i AP).A1,.int .i64 (l.getD i AP).Ft,.int .i64 (l.getD i AP).out,.int .i64 (l.getD i AP).AH,.int .i64 (l.getD i AP).base]:=by simp[Bh,List.getD,h]
theorem Uh (l:List JN) (b:JN):Bi (l++[b])=Bi l++[[.str b.name,.int .i64 b.x,.int .i64 b.y]]:=by simp[Bi]
theorem LC (l:List BY) (s:BY):Bh (l++[s])=Bh l++[[.str s.name,.bool s.A1,.int .i64 s.Ft,.int .i64 s.out,.int .i64 s.AH,.int .i64 s.base]]:=by simp[Bh]
theorem Ug (l:List JN) (n:Nat) (h:l.length≤n):(Bi l).take n=Bi l:=List.take_of_length_le (by simpa [Bi] using h)
theorem Adw (l:List (List Int)) (n:Nat) (h:l.length≤n):(AM l).take n=AM l:=List.take_of_length_le (by simpa [AM] using h)
theorem Uf (l:List BY) (n:Nat) (h:l.length≤n):(Bh l).take n=Bh l:=List.take_of_length_le (by simpa [Bh] using h)
theorem K5 (l:List (List Int)) (i:Nat) (r:List Int):AM (l.set i r)=(AM l).set i [.sl (Ag r)]:=by simp[AM,List.map_set]
def Bf (l:List Bool):List (List Pd):=l.map fun b=>[.bool b]
def Nt.cs (n:Nt):List D:=[.p (.sl (Bi n.blocks)),.p (.sl (AM n.next)),.p (.sl (Bh n.spurs)),.p (.sl (Ag n.Al)),.p (.int .i64 n.cq),.p (.int .i64 n.ca),.p (.int .i64 n.cd),.p (.int .i64 n.cp)]
def IE:List Int→Int→List Int
 | [],x=>[x]
 | y::r,x=>if x<y then x::y::r else y::IE r x
theorem Agz (l:List Int) (x:Int):(IE l x).length=l.length+1:=by
 induction l with
 | nil=>rfl
 | cons y r ih=>unfold IE;split<;>simp[ih]
theorem Rp (l:List Int) (x z:Int):z∈IE l x↔z=x∨z∈l:=by
 induction l with
 | nil=>simp[IE]
 | cons y r ih=>
   unfold IE;split
   · simp
   · simp only[List.mem_cons,ih];constructor<;>(rintro (h | h | h)<;>simp[h])
theorem Ah0 (l:List Int) (x:Int) (h:l.Pairwise (· < ·)) (hx:x∉l):(IE l x).Pairwise (· < ·):=by
 induction l with
 | nil=>simp[IE]
 | cons y r ih=>
   rw[List.pairwise_cons] at h;unfold IE;split
   · rename_i h1;rw[List.pairwise_cons];refine ⟨fun z hz=>?_,List.pairwise_cons.2 h⟩;rcases List.mem_cons.1 hz with rfl | hz
     · exact h1
     · have:=h.1 z hz;omega
   · rename_i h1;have BC:x≠y:=fun e=>hx (by simp[e]);rw[List.pairwise_cons];refine ⟨fun z hz=>?_,ih h.2 (fun hm=>hx (List.mem_cons_of_mem _ hm))⟩;rcases (Rp r x z).1 hz with rfl | hz
     · omega
     · exact h.1 z hz
theorem getD_eq {α:Type} {l:List α} {k:Nat} {x:α} (h:k<l.length):l.getD k x=l[k]:=by simp[List.getD,h]
theorem Eg (l:List Bool) (i:Nat) (h:i<l.length):(Bf l).getD i []=[.bool (l.getD i false)]:=by simp[Bf,List.getD,h]
theorem AR {α:Type} (l:List α) (i:Nat) (x:α) (h:i<l.length):l.take (i+1)=l.take i++[l.getD i x]:=by
 rw[List.take_add_one,List.getD,List.getElem?_eq_getElem h];rfl
theorem JB (l:List Int) (i:Nat):(Ag l).take i=Ag (l.take i):=by simp[Ag,List.map_take]
theorem AZ {n:Nat} (h:n<10000000):IntKind.i64.wrap ((n:Int)+1)=((n+1:Nat):Int):=As n (by omega)
theorem gde {α:Type} {l:List α} {k:Nat} {x:α} (h:k<l.length):l.getD k x=l[k]:=by simp[List.getD,h]
theorem DU {α:Type} (l:List α) (v:Nat) (x d:α) (w:Nat) (hv:v<l.length):(l.set v x).getD w d=if w=v then x else l.getD w d:=by
 simp only[List.getD,List.getElem?_set];by_cases h:w=v
 · subst h;simp[hv]
 · rw[if_neg (Ne.symm h),if_neg h]
theorem getD_map' {α β:Type} (f:α→β) (l:List α) (i:Nat) (x:α) (y:β) (h:i<l.length):(l.map f).getD i y=f (l.getD i x):=by simp[List.getD,h]
theorem Ag8:∀(a b:List Int),a.Nodup→(∀x∈a,x∈b)→a.length≤b.length
 | [],_,_,_=>by simp
 | x::a,b,hn,hs=>by
   rw[List.nodup_cons] at hn;have hx:=hs x (by simp);have h1:=Ag8 a (b.erase x) hn.2 (fun y hy=>(List.mem_erase_of_ne (fun e=>hn.1 (by rw[←e];exact hy))).2 (hs y (by simp[hy])));rw[List.length_erase_of_mem hx] at h1;have:=List.length_pos_of_mem hx;simp only[List.length_cons];omega
theorem Akn (n:Int) (h0:0≤n) (h1:n<4294967296):((BitVec.ofInt 64 n&&& BitVec.ofInt 64 4294967295).toNat:Int)=n:=by
 obtain ⟨m,rfl⟩:=Int.eq_ofNat_of_zero_le h0;have h2:m<4294967296:=by omega
 rw[BitVec.toNat_and];have e1:(BitVec.ofInt 64 (m:Int)).toNat=m:=by
   simp only[BitVec.toNat_ofInt];omega
 have e2:(BitVec.ofInt 64 4294967295).toNat=2 ^ 32 - 1:=by decide
 rw[e1,e2,Nat.and_two_pow_sub_one_eq_mod];omega
theorem Tl (n:Int) (h0:0≤n) (h1:n<4294967296):n.fdiv 4294967296=0:=by
 rw[Int.fdiv_eq_ediv_of_nonneg _ (by omega)];omega
theorem Tc (n:Int) (h0:0≤n) (h1:n<4294967296):IntKind.u64.wrap n=n:=by
 simp[IntKind.wrap,IntKind.bits,IntKind.signed];omega
theorem Agf (n:Int) (h0:0≤n) (h1:n<4294967296):
   Aj Tryz.prog 163 [.p (.int .u64 1),.p (.int .u64 n)] [] fun h d=>h=[]∧d= .BA [.p (.int .u64 0),.p (.int .u64 n)]:=by
 refine Ak Tryz.func163 rfl Acj (by simp[Tryz.f163]) ?_;simp only[go_sem,h0,h1];all_goals (try refine Ah ?_)
 have pw:(2:Int) ^ min 32 64=4294967296:=by decide
 have w0:=Tc 0 (by omega) (by omega);have w1:=Tc 1 (by omega) (by omega);have a1:=Akn 1 (by omega) (by omega);have a0:=Akn 0 (by omega) (by omega);have an:=Akn n h0 h1
 repeat erw [an]
 repeat erw [a1]
 simp only[pw,Tl n h0 h1,Tl 1 (by omega) (by omega),Tl 0 (by omega) (by omega),Tc n h0 h1,w0,w1,Int.zero_mul,Int.mul_zero,Int.zero_add,Int.add_zero,Int.one_mul]
 repeat erw [a0]
 simp only[pw,Tl n h0 h1,Tl 1 (by omega) (by omega),Tl 0 (by omega) (by omega),Tc n h0 h1,w0,w1,Int.zero_mul,Int.mul_zero,Int.zero_add,Int.add_zero,Int.one_mul];simp only[go_sem]
theorem Apu (n:Int) (h0:0≤n) (h1:n<4294967296):
   Aj Tryz.prog 133 [.p (.int .u64 1),.p (.int .u64 n)] [] fun h d=>h=[]∧d= .BA [.p (.int .u64 0),.p (.int .u64 n)]:=by
 refine Ak Tryz.func133 rfl Acx (by simp[Tryz.f133]) ?_;simp only[go_sem,h0,h1];refine Au ((Agf n h0 h1)) ?_;rintro h' r ⟨rfl,rfl⟩;simp only[go_sem];all_goals (try refine Ah ?_)
 all_goals (try simp only[go_sem])
structure Be where
 bl:List JN
 nx:List (List Int)
 sp:List BY
 cq:Int
 ca:Int
 cd:Int
 cp:Int
 mb:List (List UInt8×Int)
 ms:List (List UInt8×Int)
 ba:List Int
 sl:Int
 pl:List (Int×Int)
 cf:Bool
def encR (l:List (List Int)):List (List (List Pd)):=l.map Ag
def GF (l:List (Int×Int)):List (List Pd):=l.map fun p=>[.int .i64 p.1,.int .i64 p.2]
theorem F9 (l:List (List Int)):(encR l).length=l.length:=by simp[encR]
theorem CU (l:List (Int×Int)):(GF l).length=l.length:=by simp[GF]
theorem K4 (l:List (List Int)) (i:Nat):(encR l).getD i []=Ag (l.getD i []):=by
 unfold encR;by_cases h:i<l.length
 · simp[List.getD,h]
 · simp[List.getD,h,Ag]
theorem Ads (l:List (List Int)):encR l++[[]]=encR (l++[[]]):=by simp[encR,Ag]
theorem Xz (l:List (List Int)) (i:Nat) (r:List Int):encR (l.set i r)=(encR l).set i (Ag r):=by simp[encR,List.map_set]
theorem Adt (l:List (Int×Int)) (p:Int×Int):GF (l++[p])=GF l++[[.int .i64 p.1,.int .i64 p.2]]:=by simp[GF]
def Be.box (b:Be):List D:=[.ref 1000001 0 b.bl.length b.bl.length,.BS 1000002 b.nx.length,.ref 1000003 0 b.sp.length b.sp.length,.cl [],.p (.int .i64 b.cq),.p (.int .i64 b.ca),.p (.int .i64 b.cd),.p (.int .i64 b.cp),
 .mv 1000004,.mv 1000005,.ref 1000006 0 b.ba.length b.ba.length,.p (.int .i64 b.sl),.ref 1000007 0 b.pl.length b.pl.length,.p (.bool b.cf)]
def Be.h (b:Be) (k:Nat):Hp:=[(1000000,.box b.box),(1000001,.arr 76 3 (Bi b.bl)),(1000002,.BP 22 3 1 k (encR b.nx) none),(1000003,.arr 68 6 (Bh b.sp)),
 (1000004,.mp (Il b.mb)),(1000005,.mp (Il b.ms)),(1000006,.arr 3 1 (Ag b.ba)),(1000007,.arr 120 2 (GF b.pl))]
theorem Be.DB (b:Be) (k:Nat):b.h k=[(1000000,.box [.ref 1000001 0 b.bl.length b.bl.length,.BS 1000002 b.nx.length,.ref 1000003 0 b.sp.length b.sp.length,.cl [],.p (.int .i64 b.cq),.p (.int .i64 b.ca),.p (.int .i64 b.cd),.p (.int .i64 b.cp),
 .mv 1000004,.mv 1000005,.ref 1000006 0 b.ba.length b.ba.length,.p (.int .i64 b.sl),.ref 1000007 0 b.pl.length b.pl.length,.p (.bool b.cf)]),(1000001,.arr 76 3 (Bi b.bl)),(1000002,.BP 22 3 1 k (encR b.nx) none),(1000003,.arr 68 6 (Bh b.sp)),
 (1000004,.mp (Il b.mb)),(1000005,.mp (Il b.ms)),(1000006,.arr 3 1 (Ag b.ba)),(1000007,.arr 120 2 (GF b.pl))]:=rfl
def Be.Mw (b:Be) (x:List UInt8):Bool:=(Cz b.mb x).isSome||(Cz b.ms x).isSome
theorem F5 (b:Be) (k:Nat) (x:List UInt8):Aj Tryz.prog 141 [.ptr 1000000 0,.p (.str x)] (b.h k) fun h r=>h=b.h k∧r= .p (.bool (b.Mw x)):=by
 refine Ak Tryz.func141 rfl Acs (by simp[Tryz.f141]) ?_;rw[Be.DB b k];simp only[go_sem,KK.fit,B7,Cj,Y4];cases c:(Cz b.mb x).isSome
 · simp only[go_sem,c];try simp[Be.Mw,c]
 · simp only[go_sem,c];try simp[Be.Mw,c]
def Be.FP (b:Be) (d:Dc):Int×Be:=
 if b.Mw (d.names.getD 0 [])=true then (8,b) else if b.bl.length=24 then (14,b) else
   (0,{b with mb:=FD b.mb (d.names.getD 0 []) b.bl.length,bl:=b.bl++[⟨d.names.getD 0 [],d.AJ.getD 0 0,d.AJ.getD 1 0⟩],nx:=b.nx++[[]]})
theorem Akj (b:Be) (k:Nat) (d:Dc) (h1:1≤d.names.length) (h2:2≤d.AJ.length) (hb:b.bl.length≤24) (hn:b.nx.length≤24):
   Aj Tryz.prog 109 [.ptr 1000000 0,d.d] (b.h k) fun h r=>∃k',h=(b.FP d).2.h k'∧r= .p (.int .i64 (b.FP d).1):=by
 have e1:=BT d.names 0 (by omega);have e2:=AD d.AJ 0 (by omega);have e3:=AD d.AJ 1 (by omega);refine Ak Tryz.func109 rfl Adg (by simp[Tryz.f109]) ?_;rw[Be.DB b k];unfold Dc.d;simp only[go_sem,Aq,e1];refine ⟨by omega,?_⟩;refine Au (F5 b k _) ?_;rintro h' r ⟨rfl,rfl⟩;cases c:b.Mw (d.names.getD 0 []);rotate_left
 · simp only[go_sem,Be.DB b k,c];have hv:b.FP d=(8,b):=by unfold Be.FP;rw[if_pos c]
   rw[hv];exact ⟨k,rfl,rfl⟩
 cases c2:decide ((b.bl.length:Int)=24);rotate_left
 · simp only[go_sem,Be.DB b k,c,c2,Ay];have c3:b.bl.length=24:=by have:=of_decide_eq_true c2;omega
   have hv:b.FP d=(14,b):=by unfold Be.FP;rw[c,if_neg Bool.false_ne_true,if_pos c3]
   rw[hv];exact ⟨k,rfl,rfl⟩
 have c3:¬b.bl.length=24:=by have:=of_decide_eq_false c2;omega
 simp only[go_sem,Be.DB b k,c,c2,Ay];refine BB [(1000000,.box b.box),(3,.box [.p (.int .i64 d.word),.p (.int .i64 d.line),.p (.sl (AV d.names)),.p (.sl (Ag d.AJ))]),(1000001,.arr 76 3 (Bi b.bl))] mixed (p:=[(0,0),(1,0),(2,0),(3,0),(4,0),(5,0),(6,0),(7,0),(8,0),(9,0),(10,0),(11,0),(12,0),(13,0),(14,3)]) (by kernel_rfl) (by simp[Av,get,Be.box]) ?_;unfold Be.box;simp only[go_sem,Aq,e1,Ay,KK.fit,B7,Rc,Pd.flat];refine ⟨by omega,?_⟩;refine BB [(1000000,.box b.box),(3,.box [.p (.int .i64 d.word),.p (.int .i64 d.line),.p (.sl (AV d.names)),.p (.sl (Ag d.AJ))])] mixed (p:=[(0,0),(1,0),(2,0),(3,0),(4,0),(5,0),(6,0),(7,0),(8,0),(9,0),(10,0),(11,0),(12,0),(13,0),(14,0),(15,0),(16,0),(17,0),(18,0),(19,1),(20,2),(21,0),(22,0),(23,0),(24,3)]) (by kernel_rfl) (by simp[Av,get,Be.box]) ?_;unfold Be.box;simp only[go_sem,Aq,e1,Ab,e2,e3,Ay];refine ⟨by omega,by omega,by omega,⟨Cf _ _ rfl,by omega,by omega⟩,?_⟩;refine Al5 rfl Afb Alg rfl rfl ?_;simp only[go_sem];refine Aew rfl rfl rfl rfl Afb Afb Alg rfl rfl (F9 _).symm rfl rfl (by omega) (by omega) ?_;simp only[go_sem];have hv:b.FP d=(0,{b with mb:=FD b.mb (d.names.getD 0 []) b.bl.length,bl:=b.bl++[⟨d.names.getD 0 [],d.AJ.getD 0 0,d.AJ.getD 1 0⟩],nx:=b.nx++[[]]}):=by
   unfold Be.FP;rw[c,if_neg Bool.false_ne_true,if_neg c3]
 rw[hv];refine ⟨k+1,?_,rfl⟩;simp only[Be.DB,Uh,Ads,List.length_append,List.length_cons,List.length_nil,Nat.zero_add,Ay]
def Abp (l:List Int) (x:Int):Int:=if x∈l then ((l.idxOf x:Nat):Int) else -1
theorem WZ {x:Int}:∀(l:List Int) (i:Nat),i<l.length→l.getD i 0=x→x∉l.take i→l.idxOf x=i
 | [],i,h,_,_=>by simp at h
 | y::r,0,_,h,_=>by simp at h;subst h;simp
 | y::r,i+1,h,h1,h2=>by
   simp only[List.take_succ_cons,List.mem_cons,not_or] at h2;have:=WZ r i (by simpa using h) (by simpa [List.getD] using h1) h2.2;rw[List.idxOf_cons,this];have:(y==x)=false:=by simpa using fun e:y=x=>h2.1 e.symm
   rw[this];rfl
theorem Amg {l:List Int} {x:Int} {i:Nat} (hi:i<l.length) (hx:l.getD i 0=x) (hn:x∉l.take i):Abp l x=(i:Int):=by
 have h1:x∈l:=by rw[←hx];exact A7 l i 0 hi
 unfold Abp;rw[if_pos h1,WZ l i hi hx hn]
theorem WX (l:List Int) (x:Int):decide (0≤Abp l x)=decide (x∈l):=by
 unfold Abp;by_cases h:x∈l
 · rw[if_pos h];simp[h]
 · rw[if_neg h];simp[h]
theorem Abi (l:List Int) (x:Int) (hl:l.length≤10000000):
   Aj Tryz.prog 171 [.ref 1000000 0 l.length l.length,.p (.int .i64 x)] [(1000000,.arr 3 1 (Ag l))] fun h r=>h=[(1000000,.arr 3 1 (Ag l))]∧r= .p (.int .i64 (Abp l x)):=by
 refine Ak Tryz.func171 rfl Ua (by simp[Tryz.f171]) ?_;simp only[go_sem,Ab];refine Ao (fun i=>⟨[(0,.ref 1000000 0 l.length l.length),(1,.p (.int .i64 x)),(4,.p (.int .i64 0)),(7,.p (.int .i64 l.length)),(8,.p (.int .i64 (i:Nat)))],[(1000000,.arr 3 1 (Ag l))],19⟩) (fun i=>i≤l.length∧x∉l.take i) (fun i=>l.length - i) 0 ⟨Nat.zero_le _,by simp⟩ (Wk.forget (by simp[Le,AG,Av,get,Aa,Ac,Ad,D.ids,Ai,AO.ids,Ae,base,Ag])) ?_;rintro i n ⟨hi,he⟩ ih;simp only[go_sem,Ab];refine AK (fun h2=>?_) (fun h2=>?_)
 · have AL:i<l.length:=by simp at h2;omega
   have hw:=As i (by omega);have hg:=AD l i AL;have Bm:(0:Int)≤(i:Int)∧(i:Int)<(l.length:Int):=by omega
   have G4:=fun h=>Amg (x:=x) AL h he;have hx:l[i]?=some (l.getD i 0):=by simp[List.getD,AL]
   generalize l.getD i 0=y at*;simp only[go_sem,Ab,Int.toNat_natCast,hg,Bm];cases hv:decide (x=y)
   · simp only[go_sem,hv,hw];refine ih (i+1) _ ⟨AL,?_⟩ (by omega) ?_
     · rw[List.take_add_one,hx];have:¬x=y:=of_decide_eq_false hv;simp[he,this]
     · (refine Wk.forget ?_;simp[Le,AG,Av,get,Aa,Ac,Ad,D.ids,Ai,AO.ids,Ae,base,Ag];done)
   · simp only[go_sem,hv];rw[G4 (of_decide_eq_true hv).symm];try simp
 · simp only[go_sem];have:i=l.length:=by simp at h2;omega
   subst this;rw[List.take_length] at he;simp[Abp,he]
theorem VA (l:List Int) (x:Int) (hl:l.length≤10000000):
   Aj Tryz.prog 142 [.ref 1000000 0 l.length l.length,.p (.int .i64 x)] [(1000000,.arr 3 1 (Ag l))] fun h r=>h=[(1000000,.arr 3 1 (Ag l))]∧r= .p (.bool (decide (x∈l))):=by
 refine Ak Tryz.func142 rfl Acr (by simp[Tryz.f142]) ?_;simp only[go_sem,Ab];refine MW rfl rfl ?_;simp only[go_sem,HF];refine Sw (Abi l x hl) ?_;rintro h' r ⟨rfl,rfl⟩;simp only[go_sem,WX]
theorem Vz (rows:List (List Int)) (i k:Nat) (x:Int) (hi:i<rows.length) (hl:(rows.getD i []).length≤10000000):
   Aj Tryz.prog 142 [.nr 1000000 i (rows.getD i []).length k,.p (.int .i64 x)] [(1000000,.BP 22 3 1 k (encR rows) none)] fun h r=>h=[(1000000,.BP 22 3 1 k (encR rows) none)]∧r= .p (.bool (decide (x∈rows.getD i []))):=by
 have hg:(encR rows)[i]?=some (Ag (rows.getD i [])):=by simp[encR,List.getD,hi]
 refine (SB (ps:=[.int .i64 x]) hg (Ab _).symm (VA (rows.getD i []) x hl) (R':=fun es r=>es=Ag (rows.getD i [])∧r= .p (.bool (decide (x∈rows.getD i [])))) ?_).mono ?_
 · rintro h' r ⟨rfl,rfl⟩;exact ⟨_,rfl,Ab _,.inr ⟨_,rfl⟩,rfl,rfl⟩
 · rintro h' r ⟨LY,rfl,_,rfl,rfl⟩;refine ⟨?_,rfl⟩
   congr 4
   apply List.ext_getElem?;intro j;rw[List.getElem?_set];split
   · rename_i e;subst e;rw[hg];simp[encR,hi]
   · rfl
def Be.EG (b:Be) (x y:List UInt8):Int×Be:=
 match Cz b.mb x,Cz b.mb y with
 | some i,some j=>if i=j then (10,b) else if j∈b.nx.getD i.toNat [] then (11,b) else if (b.nx.getD i.toNat []).length=4 then (14,b) else
     (0,{b with nx:=b.nx.set i.toNat (b.nx.getD i.toNat []++[j])})
 | _,_=>(9,b)
theorem Am9 (b:Be) (k:Nat) (x y:List UInt8) (hm:∀x i,Cz b.mb x=some i→∃n:Nat,i=(n:Int)∧n<b.nx.length) (hr:∀i,(b.nx.getD i []).length≤24):
   Aj Tryz.prog 110 [.ptr 1000000 0,.p (.str x),.p (.str y)] (b.h k) fun h r=>∃k',h=(b.EG x y).2.h k'∧r= .p (.int .i64 (b.EG x y).1):=by
 refine Ak Tryz.func110 rfl Adf (by simp[Tryz.f110]) ?_;rw[Be.DB b k];cases c1:Cz b.mb x with
 | none=>
   simp only[go_sem,KK.fit,B7,Cj,CS,c1,Option.isSome_none,Option.getD_none];have hv:b.EG x y=(9,b):=by unfold Be.EG;rw[c1]
   rw[hv];exact ⟨k,rfl,rfl⟩
 | some i=>
   cases c2:Cz b.mb y with
   | none=>
     simp only[go_sem,KK.fit,B7,Cj,CS,c1,c2,Option.isSome_none,Option.getD_none];have hv:b.EG x y=(9,b):=by unfold Be.EG;rw[c1,c2]
     rw[hv];exact ⟨k,rfl,rfl⟩
   | some j=>
     obtain ⟨n,rfl,hn⟩:=hm x i c1;cases c3:decide ((n:Int)=j);rotate_left
     · simp only[go_sem,KK.fit,B7,Cj,CS,c1,c2,c3];have c3':(n:Int)=j:=of_decide_eq_true c3;have hv:b.EG x y=(10,b):=by unfold Be.EG;rw[c1,c2];simp only;rw[if_pos c3']
       rw[hv];exact ⟨k,rfl,rfl⟩
     have c3':¬(n:Int)=j:=of_decide_eq_false c3;have hn0:(0:Int)≤(n:Int)∧(n:Int)<(b.nx.length:Int):=by omega
     simp only[go_sem,KK.fit,B7,Cj,CS,c1,c2,c3,hn0,Int.toNat_natCast,K4,Ab,F9];refine Au (Vz b.nx n k j hn (by have:=hr n;omega)) ?_;rintro h' r ⟨rfl,rfl⟩;cases c4:decide (j∈b.nx.getD n []);rotate_left
     · simp only[go_sem,c4];have c4':j∈b.nx.getD n []:=of_decide_eq_true c4;have hv:b.EG x y=(11,b):=by unfold Be.EG;rw[c1,c2];simp only[Int.toNat_natCast];rw[if_neg c3',if_pos c4']
       rw[hv];exact ⟨k,rfl,rfl⟩
     have c4':¬j∈b.nx.getD n []:=of_decide_eq_false c4;have hrn:=hr n;cases c5:decide (((b.nx.getD n []).length:Int)=4);rotate_left
     · simp only[go_sem,c4,c5,hn0,Int.toNat_natCast,K4,Ab,F9];have c5':(b.nx.getD n []).length=4:=by have:=of_decide_eq_true c5;omega
       have hv:b.EG x y=(14,b):=by unfold Be.EG;rw[c1,c2];simp only[Int.toNat_natCast];rw[if_neg c3',if_neg c4',if_pos c5']
       rw[hv];exact ⟨k,rfl,rfl⟩
     have c5':¬(b.nx.getD n []).length=4:=by have:=of_decide_eq_false c5;omega
     simp only[go_sem,c4,c5,hn0,Int.toNat_natCast,K4,Ab,F9];refine BB [(1000000,.box b.box)] mixed (p:=[(0,0),(1,0),(2,0),(3,0),(4,0),(5,0),(6,0),(7,0),(8,0),(9,0),(10,0),(11,0),(12,0),(14,0),(15,1),(13,2),(16,2),(17,0),(18,3)]) (by kernel_rfl) (by simp[Av,get,Be.box]) ?_;unfold Be.box;simp only[go_sem,hn0,Int.toNat_natCast,K4,Ab,F9];refine ⟨⟨Cf _ _ rfl,hn,by omega,by omega⟩,?_⟩;have hv:b.EG x y=(0,{b with nx:=b.nx.set n (b.nx.getD n []++[j])}):=by
       unfold Be.EG;rw[c1,c2];simp only[Int.toNat_natCast];rw[if_neg c3',if_neg c4',if_neg c5']
     rw[hv];refine ⟨k+1+1,?_,rfl⟩;simp only[Be.DB,Xz,Cq,List.length_set]
def Be.D8 (b:Be) (d:Dc):Int×Be:=
 if b.Mw (d.names.getD 0 [])=true then (8,b) else match Cz b.mb (d.names.getD 1 []),Cz b.mb (d.names.getD 2 []) with
 | some i,some j=>if decide (d.AJ.getD 0 0<1)=true then (12,b) else if decide (4<d.AJ.getD 0 0)=true then (12,b) else if b.sp.length=6 then (14,b) else
     (0,{b with ms:=FD b.ms (d.names.getD 0 []) b.sp.length,sp:=b.sp++[⟨d.names.getD 0 [],decide (d.word=4),i,j,d.AJ.getD 0 0,0⟩],ba:=b.ba++[b.sl],sl:=b.sl+d.AJ.getD 0 0})
 | _,_=>(9,b)
theorem Ali (b:Be) (k:Nat) (d:Dc) (h1:3≤d.names.length) (h2:1≤d.AJ.length) (hb:b.sp.length≤6) (hba:b.ba.length≤6) (hs:0≤b.sl∧b.sl≤1000):
   Aj Tryz.prog 113 [.ptr 1000000 0,d.d] (b.h k) fun h r=>∃k',h=(b.D8 d).2.h k'∧r= .p (.int .i64 (b.D8 d).1):=by
 have e1:=BT d.names 0 (by omega);have e4:=BT d.names 1 (by omega);have e5:=BT d.names 2 (by omega);have e2:=AD d.AJ 0 (by omega);refine Ak Tryz.func113 rfl Adb (by simp[Tryz.f113]) ?_;rw[Be.DB b k];unfold Dc.d;simp only[go_sem];cases c:b.Mw (d.names.getD 0 []);rotate_left
 · cases c1:Cz b.mb (d.names.getD 1 [])<;>cases c2:Cz b.mb (d.names.getD 2 [])<;>
   · skip
     refine BB [(1000000,.box b.box),(3,.box [.p (.int .i64 d.word),.p (.int .i64 d.line),.p (.sl (AV d.names)),.p (.sl (Ag d.AJ))]),(1000004,.mp (Il b.mb))] mixed (p:=[(0,0),(1,0),(2,0),(3,0),(4,0),(5,0),(6,0),(7,0),(8,0),(9,0),(10,0),(11,0),(12,0),(13,0)]) (by kernel_rfl) (by simp[Av,get,Be.box]) ?_;unfold Be.box;simp only[go_sem,Aq,e1,e4,e5,KK.fit,B7,Cj,CS,c1,c2,Option.isSome_none];refine ⟨by omega,?_⟩;refine BB [(1000000,.box b.box),(3,.box [.p (.int .i64 d.word),.p (.int .i64 d.line),.p (.sl (AV d.names)),.p (.sl (Ag d.AJ))]),(1000004,.mp (Il b.mb))] mixed (p:=[(0,0),(1,0),(2,0),(3,0),(4,0),(5,0),(6,0),(7,0),(8,0),(9,0),(10,0),(11,0),(12,0),(13,0)]) (by kernel_rfl) (by simp[Av,get,Be.box]) ?_;unfold Be.box;simp only[go_sem,Aq,e1,e4,e5,KK.fit,B7,Cj,CS,c1,c2,Option.isSome_none];refine ⟨by omega,by omega,?_⟩;refine Au (F5 b k _) ?_;rintro h' r ⟨rfl,rfl⟩;simp only[go_sem,Be.DB b k,c];have hv:b.D8 d=(8,b):=by unfold Be.D8;simp only[c];try simp
     rw[hv];exact ⟨k,rfl,rfl⟩
 cases c1:Cz b.mb (d.names.getD 1 []) with
 | none=>
   cases c2:Cz b.mb (d.names.getD 2 [])<;>
   · skip
     refine BB [(1000000,.box b.box),(3,.box [.p (.int .i64 d.word),.p (.int .i64 d.line),.p (.sl (AV d.names)),.p (.sl (Ag d.AJ))]),(1000004,.mp (Il b.mb))] mixed (p:=[(0,0),(1,0),(2,0),(3,0),(4,0),(5,0),(6,0),(7,0),(8,0),(9,0),(10,0),(11,0),(12,0),(13,0)]) (by kernel_rfl) (by simp[Av,get,Be.box]) ?_;unfold Be.box;simp only[go_sem,Aq,e1,e4,e5,KK.fit,B7,Cj,CS,c1,c2,Option.isSome_none];refine ⟨by omega,?_⟩;refine BB [(1000000,.box b.box),(3,.box [.p (.int .i64 d.word),.p (.int .i64 d.line),.p (.sl (AV d.names)),.p (.sl (Ag d.AJ))]),(1000004,.mp (Il b.mb))] mixed (p:=[(0,0),(1,0),(2,0),(3,0),(4,0),(5,0),(6,0),(7,0),(8,0),(9,0),(10,0),(11,0),(12,0),(13,0)]) (by kernel_rfl) (by simp[Av,get,Be.box]) ?_;unfold Be.box;simp only[go_sem,Aq,e1,e4,e5,KK.fit,B7,Cj,CS,c1,c2,Option.isSome_none];refine ⟨by omega,by omega,?_⟩;refine Au (F5 b k _) ?_;rintro h' r ⟨rfl,rfl⟩;simp only[go_sem,Be.DB b k,c];have hv:b.D8 d=(9,b):=by unfold Be.D8;simp only[c,c1];try simp
     rw[hv];exact ⟨k,rfl,rfl⟩
 | some i=>
   cases c2:Cz b.mb (d.names.getD 2 []) with
   | none=>
     refine BB [(1000000,.box b.box),(3,.box [.p (.int .i64 d.word),.p (.int .i64 d.line),.p (.sl (AV d.names)),.p (.sl (Ag d.AJ))]),(1000004,.mp (Il b.mb))] mixed (p:=[(0,0),(1,0),(2,0),(3,0),(4,0),(5,0),(6,0),(7,0),(8,0),(9,0),(10,0),(11,0),(12,0),(13,0)]) (by kernel_rfl) (by simp[Av,get,Be.box]) ?_;unfold Be.box;simp only[go_sem,Aq,e1,e4,e5,KK.fit,B7,Cj,CS,c1,c2,Option.isSome_none];refine ⟨by omega,?_⟩;refine BB [(1000000,.box b.box),(3,.box [.p (.int .i64 d.word),.p (.int .i64 d.line),.p (.sl (AV d.names)),.p (.sl (Ag d.AJ))]),(1000004,.mp (Il b.mb))] mixed (p:=[(0,0),(1,0),(2,0),(3,0),(4,0),(5,0),(6,0),(7,0),(8,0),(9,0),(10,0),(11,0),(12,0),(13,0)]) (by kernel_rfl) (by simp[Av,get,Be.box]) ?_;unfold Be.box;simp only[go_sem,Aq,e1,e4,e5,KK.fit,B7,Cj,CS,c1,c2,Option.isSome_none];refine ⟨by omega,by omega,?_⟩;refine Au (F5 b k _) ?_;rintro h' r ⟨rfl,rfl⟩;simp only[go_sem,Be.DB b k,c];have hv:b.D8 d=(9,b):=by unfold Be.D8;simp only[c,c1,c2];try simp
     rw[hv];exact ⟨k,rfl,rfl⟩
   | some j=>
     cases c3:decide (d.AJ.getD 0 0<1);rotate_left
     · skip
       refine BB [(1000000,.box b.box),(3,.box [.p (.int .i64 d.word),.p (.int .i64 d.line),.p (.sl (AV d.names)),.p (.sl (Ag d.AJ))]),(1000004,.mp (Il b.mb))] mixed (p:=[(0,0),(1,0),(2,0),(3,0),(4,0),(5,0),(6,0),(7,0),(8,0),(9,0),(10,0),(11,0),(12,0),(13,0)]) (by kernel_rfl) (by simp[Av,get,Be.box]) ?_;unfold Be.box;simp only[go_sem,Aq,e1,e4,e5,KK.fit,B7,Cj,CS,c1,c2];refine ⟨by omega,?_⟩;refine BB [(1000000,.box b.box),(3,.box [.p (.int .i64 d.word),.p (.int .i64 d.line),.p (.sl (AV d.names)),.p (.sl (Ag d.AJ))]),(1000004,.mp (Il b.mb))] mixed (p:=[(0,0),(1,0),(2,0),(3,0),(4,0),(5,0),(6,0),(7,0),(8,0),(9,0),(10,0),(11,0),(12,0),(13,0)]) (by kernel_rfl) (by simp[Av,get,Be.box]) ?_;unfold Be.box;simp only[go_sem,Aq,e1,e4,e5,KK.fit,B7,Cj,CS,c1,c2];refine ⟨by omega,by omega,?_⟩;refine Au (F5 b k _) ?_;rintro h' r ⟨rfl,rfl⟩;simp only[go_sem,Be.DB b k,c,Ab,e2,c3];refine ⟨by omega,?_⟩;have hv:b.D8 d=(12,b):=by unfold Be.D8;simp only[c,c1,c2,c3];try simp
       rw[hv];exact ⟨k,rfl,rfl⟩
     cases c4:decide (4<d.AJ.getD 0 0);rotate_left
     · skip
       refine BB [(1000000,.box b.box),(3,.box [.p (.int .i64 d.word),.p (.int .i64 d.line),.p (.sl (AV d.names)),.p (.sl (Ag d.AJ))]),(1000004,.mp (Il b.mb))] mixed (p:=[(0,0),(1,0),(2,0),(3,0),(4,0),(5,0),(6,0),(7,0),(8,0),(9,0),(10,0),(11,0),(12,0),(13,0)]) (by kernel_rfl) (by simp[Av,get,Be.box]) ?_;unfold Be.box;simp only[go_sem,Aq,e1,e4,e5,KK.fit,B7,Cj,CS,c1,c2];refine ⟨by omega,?_⟩;refine BB [(1000000,.box b.box),(3,.box [.p (.int .i64 d.word),.p (.int .i64 d.line),.p (.sl (AV d.names)),.p (.sl (Ag d.AJ))]),(1000004,.mp (Il b.mb))] mixed (p:=[(0,0),(1,0),(2,0),(3,0),(4,0),(5,0),(6,0),(7,0),(8,0),(9,0),(10,0),(11,0),(12,0),(13,0)]) (by kernel_rfl) (by simp[Av,get,Be.box]) ?_;unfold Be.box;simp only[go_sem,Aq,e1,e4,e5,KK.fit,B7,Cj,CS,c1,c2];refine ⟨by omega,by omega,?_⟩;refine Au (F5 b k _) ?_;rintro h' r ⟨rfl,rfl⟩;simp only[go_sem,Be.DB b k,c,Ab,e2,c3,c4];refine ⟨by omega,by omega,?_⟩;have hv:b.D8 d=(12,b):=by unfold Be.D8;simp only[c,c1,c2,c3,c4];try simp
       rw[hv];exact ⟨k,rfl,rfl⟩
     have c3':¬d.AJ.getD 0 0<1:=of_decide_eq_false c3;have c4':¬4<d.AJ.getD 0 0:=of_decide_eq_false c4;cases c5:decide ((b.sp.length:Int)=6);rotate_left
     · skip
       refine BB [(1000000,.box b.box),(3,.box [.p (.int .i64 d.word),.p (.int .i64 d.line),.p (.sl (AV d.names)),.p (.sl (Ag d.AJ))]),(1000004,.mp (Il b.mb))] mixed (p:=[(0,0),(1,0),(2,0),(3,0),(4,0),(5,0),(6,0),(7,0),(8,0),(9,0),(10,0),(11,0),(12,0),(13,0)]) (by kernel_rfl) (by simp[Av,get,Be.box]) ?_;unfold Be.box;simp only[go_sem,Aq,e1,e4,e5,KK.fit,B7,Cj,CS,c1,c2];refine ⟨by omega,?_⟩;refine BB [(1000000,.box b.box),(3,.box [.p (.int .i64 d.word),.p (.int .i64 d.line),.p (.sl (AV d.names)),.p (.sl (Ag d.AJ))]),(1000004,.mp (Il b.mb))] mixed (p:=[(0,0),(1,0),(2,0),(3,0),(4,0),(5,0),(6,0),(7,0),(8,0),(9,0),(10,0),(11,0),(12,0),(13,0)]) (by kernel_rfl) (by simp[Av,get,Be.box]) ?_;unfold Be.box;simp only[go_sem,Aq,e1,e4,e5,KK.fit,B7,Cj,CS,c1,c2];refine ⟨by omega,by omega,?_⟩;refine Au (F5 b k _) ?_;rintro h' r ⟨rfl,rfl⟩;simp only[go_sem,Be.DB b k,c,Ab,e2,c3,c4,c5,Ax];refine ⟨by omega,by omega,?_⟩;have c5':b.sp.length=6:=by have:=of_decide_eq_true c5;omega
       have hv:b.D8 d=(14,b):=by unfold Be.D8;simp only[c,c1,c2,c3,c4,c5'];try simp
       rw[hv];exact ⟨k,rfl,rfl⟩
     have c5':¬b.sp.length=6:=by have:=of_decide_eq_false c5;omega
     refine BB [(1000000,.box b.box),(3,.box [.p (.int .i64 d.word),.p (.int .i64 d.line),.p (.sl (AV d.names)),.p (.sl (Ag d.AJ))]),(1000004,.mp (Il b.mb))] mixed (p:=[(0,0),(1,0),(2,0),(3,0),(4,0),(5,0),(6,0),(7,0),(8,0),(9,0),(10,0),(11,0),(12,0),(13,0)]) (by kernel_rfl) (by simp[Av,get,Be.box]) ?_;unfold Be.box;simp only[go_sem,Aq,e1,e4,e5,KK.fit,B7,Cj,CS,c1,c2];refine ⟨by omega,?_⟩;refine BB [(1000000,.box b.box),(3,.box [.p (.int .i64 d.word),.p (.int .i64 d.line),.p (.sl (AV d.names)),.p (.sl (Ag d.AJ))]),(1000004,.mp (Il b.mb))] mixed (p:=[(0,0),(1,0),(2,0),(3,0),(4,0),(5,0),(6,0),(7,0),(8,0),(9,0),(10,0),(11,0),(12,0),(13,0)]) (by kernel_rfl) (by simp[Av,get,Be.box]) ?_;unfold Be.box;simp only[go_sem,Aq,e1,e4,e5,KK.fit,B7,Cj,CS,c1,c2];refine ⟨by omega,by omega,?_⟩;refine Au (F5 b k _) ?_;rintro h' r ⟨rfl,rfl⟩;simp only[go_sem,Be.DB b k,c,Ab,e2,c3,c4,c5,Ax];refine ⟨by omega,by omega,?_⟩;refine BB [(1000000,.box b.box),(3,.box [.p (.int .i64 d.word),.p (.int .i64 d.line),.p (.sl (AV d.names)),.p (.sl (Ag d.AJ))]),(1000003,.arr 68 6 (Bh b.sp))] mixed (p:=[(0,0),(1,0),(2,0),(3,0),(4,0),(5,0),(6,0),(7,0),(8,0),(9,0),(10,0),(11,0),(12,0),(13,0),(14,3)]) (by kernel_rfl) (by simp[Av,get,Be.box]) ?_;unfold Be.box;simp only[go_sem,Aq,e1,Ax,KK.fit,B7,Rc,Pd.flat];refine ⟨by omega,?_⟩;refine BB [(1000000,.box b.box),(3,.box [.p (.int .i64 d.word),.p (.int .i64 d.line),.p (.sl (AV d.names)),.p (.sl (Ag d.AJ))])] mixed (p:=[(0,0),(1,0),(2,0),(3,0),(4,0),(5,0),(6,0),(7,0),(8,0),(9,0),(10,0),(11,0),(12,0),(13,0),(14,0),(15,0),(16,0),(17,0),(18,0),(19,0),(20,1),(21,2),(22,0),(23,0),(24,0),(25,3)]) (by kernel_rfl) (by simp[Av,get,Be.box]) ?_;unfold Be.box;simp only[go_sem,Aq,e1,Ab,e2,Ax,List.length_append];refine ⟨by omega,by omega,⟨Cf _ _ rfl,by omega,by omega⟩,?_⟩;refine BB [(1000000,.box (Be.box {b with sp:=b.sp++[⟨d.names.getD 0 [],decide (d.word=4),i,j,d.AJ.getD 0 0,0⟩]}))] mixed (p:=[(0,0),(1,0),(2,0),(3,0),(4,0),(5,0),(6,0),(7,0),(8,0),(9,1),(10,2),(11,0),(12,0),(13,3)]) (by kernel_rfl) (by simp[Av,get,Be.box,Ax]) ?_;unfold Be.box;simp only[go_sem,Ab,List.length_append];refine ⟨⟨Cf _ _ rfl,by omega,by omega⟩,?_⟩;have hw:IntKind.i64.wrap (b.sl+d.AJ.getD 0 0)=b.sl+d.AJ.getD 0 0:=by rw[An]<;>omega
     refine BB [(1000000,.box (Be.box {b with sp:=b.sp++[⟨d.names.getD 0 [],decide (d.word=4),i,j,d.AJ.getD 0 0,0⟩],ba:=b.ba++[b.sl]})),(3,.box [.p (.int .i64 d.word),.p (.int .i64 d.line),.p (.sl (AV d.names)),.p (.sl (Ag d.AJ))])] mixed (p:=[(0,0),(1,0),(2,0),(3,0),(4,0),(5,0),(6,0),(7,0),(8,0),(9,0),(10,0),(11,3)]) (by kernel_rfl) (by simp[Av,get,Be.box,Ax,Ab]) ?_;unfold Be.box;simp only[go_sem,Ab,e2,hw,List.length_append];refine ⟨by omega,?_⟩;have hv:b.D8 d=(0,{b with ms:=FD b.ms (d.names.getD 0 []) b.sp.length,sp:=b.sp++[⟨d.names.getD 0 [],decide (d.word=4),i,j,d.AJ.getD 0 0,0⟩],ba:=b.ba++[b.sl],sl:=b.sl+d.AJ.getD 0 0}):=by
       unfold Be.D8;simp only[c,c1,c2,c3,c4,if_neg c5',Bool.false_eq_true,if_false]
     rw[hv];refine ⟨k,?_,rfl⟩;simp only[Be.DB,LC,Cq,List.length_append,List.length_cons,List.length_nil,Nat.zero_add]
def inV (n lo hi:Int):Bool:=decide (lo≤n)&&decide (n≤hi)
theorem Lg (n lo hi:Int):Aj Tryz.prog 40 [.p (.int .i64 n),.p (.int .i64 lo),.p (.int .i64 hi)] [] fun h r=>h=[]∧r= .p (.bool (inV n lo hi)):=by
 refine Ak Tryz.func40 rfl Xv (by simp[Tryz.f40]) ?_;cases c:decide (lo≤n)
 · simp only[go_sem,c];try simp[inV,c]
 · simp only[go_sem,c];try simp[inV,c]
def ZP (q a d p:Int):Bool:=inV q 1 8&&(inV a 0 4&&(inV d 0 3&&inV p 1 16))
theorem QH (q a d p:Int):Aj Tryz.prog 41 [.agg [.p (.int .i64 q),.p (.int .i64 a),.p (.int .i64 d),.p (.int .i64 p)]] [] fun h r=>h=[]∧r= .p (.bool (ZP q a d p)):=by
 refine Ak Tryz.func41 rfl Xu (by simp[Tryz.f41]) ?_;simp only[go_sem];refine Au ((Lg q 1 8)) ?_;rintro h' r ⟨rfl,rfl⟩;cases c1:inV q 1 8
 · simp only[go_sem,c1];try simp[ZP,c1]
 simp only[go_sem,c1];refine Au ((Lg a 0 4)) ?_;rintro h' r ⟨rfl,rfl⟩;cases c2:inV a 0 4
 · simp only[go_sem,c2];try simp[ZP,c1,c2]
 simp only[go_sem,c2];refine Au ((Lg d 0 3)) ?_;rintro h' r ⟨rfl,rfl⟩;cases c3:inV d 0 3
 · simp only[go_sem,c3];try simp[ZP,c1,c2,c3]
 simp only[go_sem,c3];refine Au ((Lg p 1 16)) ?_;rintro h' r ⟨rfl,rfl⟩;simp only[go_sem];try simp[ZP,c1,c2,c3]
def Be.DX (b:Be) (d:Dc):Int×Be:=
 if b.cf=true then (11,b) else if ZP (d.AJ.getD 0 0) (d.AJ.getD 1 0) (d.AJ.getD 2 0) (d.AJ.getD 3 0)=false then (19,b) else
   (0,{b with cq:=d.AJ.getD 0 0,ca:=d.AJ.getD 1 0,cd:=d.AJ.getD 2 0,cp:=d.AJ.getD 3 0,cf:=true})
theorem Ae7 (b:Be) (k:Nat) (d:Dc) (h2:4≤d.AJ.length):
   Aj Tryz.prog 112 [.ptr 1000000 0,d.d] (b.h k) fun h r=>∃k',h=(b.DX d).2.h k'∧r= .p (.int .i64 (b.DX d).1):=by
 have e0:=AD d.AJ 0 (by omega);have e1:=AD d.AJ 1 (by omega);have e2:=AD d.AJ 2 (by omega);have e3:=AD d.AJ 3 (by omega);refine Ak Tryz.func112 rfl Adc (by simp[Tryz.f112]) ?_;rw[Be.DB b k];unfold Dc.d;simp only[go_sem];refine BB [(3,.box [.p (.int .i64 d.word),.p (.int .i64 d.line),.p (.sl (AV d.names)),.p (.sl (Ag d.AJ))])] mixed (p:=[(0,0),(1,0),(2,0),(3,0),(4,0),(5,0),(6,0),(7,0),(8,0),(9,0),(10,0),(11,0),(12,0),(13,0),(14,0),(15,0),(16,0),(17,1),(18,3)]) (by kernel_rfl) (by simp[Av,get]) ?_;cases c:b.cf;rotate_left
 · simp only[go_sem,Ab,e0,e1,e2,e3,c];refine ⟨by omega,by omega,by omega,by omega,?_⟩;have hv:b.DX d=(11,b):=by unfold Be.DX;rw[if_pos c]
   rw[hv];refine ⟨k,?_,rfl⟩;rw[Be.DB,c]
 simp only[go_sem,Ab,e0,e1,e2,e3,c];refine ⟨by omega,by omega,by omega,by omega,?_⟩;refine Au ((QH (d.AJ.getD 0 0) (d.AJ.getD 1 0) (d.AJ.getD 2 0) (d.AJ.getD 3 0))) ?_;rintro h' r ⟨rfl,rfl⟩;cases c2:ZP (d.AJ.getD 0 0) (d.AJ.getD 1 0) (d.AJ.getD 2 0) (d.AJ.getD 3 0)
 · simp only[go_sem,c2];have hv:b.DX d=(19,b):=by unfold Be.DX;rw[c,if_neg Bool.false_ne_true,if_pos c2]
   rw[hv];refine ⟨k,?_,rfl⟩;rw[Be.DB,c]
 simp only[go_sem,c2];have hv:b.DX d=(0,{b with cq:=d.AJ.getD 0 0,ca:=d.AJ.getD 1 0,cd:=d.AJ.getD 2 0,cp:=d.AJ.getD 3 0,cf:=true}):=by unfold Be.DX;rw[c,if_neg Bool.false_ne_true,c2,if_neg (by simp)]
 rw[hv];exact ⟨k,rfl,rfl⟩
def Abq (l:List (Int×Int)) (x:Int×Int):Int:=if x∈l then ((l.idxOf x:Nat):Int) else -1
theorem TO {x:Int×Int}:∀(l:List (Int×Int)) (i:Nat),i<l.length→l.getD i (0,0)=x→x∉l.take i→l.idxOf x=i
 | [],i,h,_,_=>by simp at h
 | y::r,0,_,h,_=>by simp at h;subst h;simp
 | y::r,i+1,h,h1,h2=>by
   simp only[List.take_succ_cons,List.mem_cons,not_or] at h2;have:=TO r i (by simpa using h) (by simpa [List.getD] using h1) h2.2;rw[List.idxOf_cons,this];have:(y==x)=false:=by simpa using fun e:y=x=>h2.1 e.symm
   rw[this];rfl
theorem Amh {l:List (Int×Int)} {x:Int×Int} {i:Nat} (hi:i<l.length) (hx:l.getD i (0,0)=x) (hn:x∉l.take i):Abq l x=(i:Int):=by
 have h1:x∈l:=by rw[←hx];exact A7 l i (0,0) hi
 unfold Abq;rw[if_pos h1,TO l i hi hx hn]
theorem WY (l:List (Int×Int)) (x:Int×Int):decide (0≤Abq l x)=decide (x∈l):=by
 unfold Abq;by_cases h:x∈l
 · rw[if_pos h];simp[h]
 · rw[if_neg h];simp[h]
theorem Ajq (l:List (Int×Int)) (i:Nat) (h:i<l.length):(GF l).getD i []=[.int .i64 (l.getD i (0,0)).1,.int .i64 (l.getD i (0,0)).2]:=by simp[GF,List.getD,h]
theorem Zi (l:List (Int×Int)) (x:Int×Int) (hl:l.length≤10000000):
   Aj Tryz.prog 172 [.ref 1000000 0 l.length l.length,.agg [.p (.int .i64 x.1),.p (.int .i64 x.2)]] [(1000000,.arr 120 2 (GF l))] fun h r=>h=[(1000000,.arr 120 2 (GF l))]∧r= .p (.int .i64 (Abq l x)):=by
 refine Ak Tryz.func172 rfl Acf (by simp[Tryz.f172]) ?_;simp only[go_sem,CU];refine Ao (fun i=>⟨[(0,.ref 1000000 0 l.length l.length),(3,.ptr 3 0),(4,.p (.int .i64 0)),(7,.p (.int .i64 l.length)),(8,.p (.int .i64 (i:Nat)))],[(3,.box [.p (.int .i64 x.1),.p (.int .i64 x.2)]),(1000000,.arr 120 2 (GF l))],19⟩) (fun i=>i≤l.length∧x∉l.take i) (fun i=>l.length - i) 0 ⟨Nat.zero_le _,by simp⟩ (Wk.forget (by simp[Le,AG,Av,get,Aa,Ac,Ad,D.ids,Ai,AO.ids,Ae,base,GF])) ?_;rintro i n ⟨hi,he⟩ ih;simp only[go_sem,CU];refine AK (fun h2=>?_) (fun h2=>?_)
 · have AL:i<l.length:=by simp at h2;omega
   have hw:=As i (by omega);have hg:=Ajq l i AL;have Bm:(0:Int)≤(i:Int)∧(i:Int)<(l.length:Int):=by omega
   have G4:=fun h=>Amh (x:=x) AL h he;have hx:l[i]?=some (l.getD i (0,0)):=by simp[List.getD,AL]
   generalize l.getD i (0,0)=y at*;simp only[go_sem,CU,Int.toNat_natCast,hg,Bm];refine BB [(3,.box [.p (.int .i64 x.1),.p (.int .i64 x.2)]),(1000000,.arr 120 2 (GF l))] mixed (p:=[(0,0),(1,0),(2,0),(3,0),(4,0),(5,0)]) (by kernel_rfl) (by simp[Av,get]) ?_;cases h1:decide (x.1=y.1)
   · simp only[go_sem,CU,Int.toNat_natCast,hg,Bm,h1,hw];have BC:¬x=y:=fun e=>(of_decide_eq_false h1) (by rw[e]);refine ih (i+1) _ ⟨AL,by rw[List.take_add_one,hx];simp[he,BC]⟩ (by omega) ?_
     (refine Wk.forget ?_;simp[Le,AG,Av,get,Aa,Ac,Ad,D.ids,Ai,AO.ids,Ae,base,GF];done)
   cases h2:decide (x.2=y.2)
   · simp only[go_sem,CU,Int.toNat_natCast,hg,Bm,h1,h2,hw];have BC:¬x=y:=fun e=>(of_decide_eq_false h2) (by rw[e]);refine ih (i+1) _ ⟨AL,by rw[List.take_add_one,hx];simp[he,BC]⟩ (by omega) ?_
     (refine Wk.forget ?_;simp[Le,AG,Av,get,Aa,Ac,Ad,D.ids,Ai,AO.ids,Ae,base,GF];done)
   · simp only[go_sem,CU,Int.toNat_natCast,hg,Bm,h1,h2,hw];rw[G4 (Prod.ext (of_decide_eq_true h1).symm (of_decide_eq_true h2).symm)]
 · simp only[go_sem];have:i=l.length:=by simp at h2;omega
   subst this;rw[List.take_length] at he;simp[Abq,he]
theorem S7 (l:List (Int×Int)) (x:Int×Int) (hl:l.length≤10000000):
   Aj Tryz.prog 143 [.ref 1000000 0 l.length l.length,.agg [.p (.int .i64 x.1),.p (.int .i64 x.2)]] [(1000000,.arr 120 2 (GF l))] fun h r=>h=[(1000000,.arr 120 2 (GF l))]∧r= .p (.bool (decide (x∈l))):=by
 refine Ak Tryz.func143 rfl Acq (by simp[Tryz.f143]) ?_;simp only[go_sem,CU];refine MW rfl rfl ?_;simp only[go_sem,HF];refine Sw (Zi l x hl) ?_;rintro h' r ⟨rfl,rfl⟩;simp only[go_sem,WY]
def Be.CX (b:Be) (d:Dc):Int×Be:=
 match Cz b.ms (d.names.getD 0 []) with
 | none=>(9,b)
 | some i=>if (b.sp.getD i.toNat AP).A1=false then (9,b) else if decide (d.AJ.getD 0 0<1)=true then (12,b) else if decide ((b.sp.getD i.toNat AP).AH<d.AJ.getD 0 0)=true then (12,b) else
     if (i,d.AJ.getD 0 0)∈b.pl then (13,b) else if b.pl.length=8 then (14,b) else (0,{b with pl:=b.pl++[(i,d.AJ.getD 0 0)]})
theorem Afw (b:Be) (k:Nat) (d:Dc) (h1:1≤d.names.length) (h2:1≤d.AJ.length) (hb:b.pl.length≤8) (hm:∀x i,Cz b.ms x=some i→∃n:Nat,i=(n:Int)∧n<b.sp.length):
   Aj Tryz.prog 111 [.ptr 1000000 0,d.d] (b.h k) fun h r=>∃k',h=(b.CX d).2.h k'∧r= .p (.int .i64 (b.CX d).1):=by
 have e1:=BT d.names 0 (by omega);have e2:=AD d.AJ 0 (by omega);refine Ak Tryz.func111 rfl Ade (by simp[Tryz.f111]) ?_;rw[Be.DB b k];unfold Dc.d;simp only[go_sem];refine BB [(1000000,.box b.box),(3,.box [.p (.int .i64 d.word),.p (.int .i64 d.line),.p (.sl (AV d.names)),.p (.sl (Ag d.AJ))]),(1000005,.mp (Il b.ms))] mixed (p:=[(0,0),(1,0),(2,0),(3,0),(4,0),(5,0),(6,0),(7,0),(8,0),(9,0),(10,0),(11,0),(12,0),(13,0)]) (by kernel_rfl) (by simp[Av,get,Be.box]) ?_;unfold Be.box;cases c1:Cz b.ms (d.names.getD 0 []) with
 | none=>
   simp only[go_sem,Aq,e1,KK.fit,B7,Cj,CS,c1,Option.isSome_none,Ab,e2];refine ⟨by omega,by omega,?_⟩;have hv:b.CX d=(9,b):=by unfold Be.CX;rw[c1]
   rw[hv];exact ⟨k,rfl,rfl⟩
 | some i=>
   obtain ⟨n,rfl,hn⟩:=hm _ i c1;have hn0:(0:Int)≤(n:Int)∧(n:Int)<(b.sp.length:Int):=by omega
   have hg:=CG b.sp n hn;cases c2:(b.sp.getD n AP).A1
   · simp only[go_sem,Aq,e1,KK.fit,B7,Cj,CS,c1,Ab,e2,Ax,hn0,Int.toNat_natCast,hg,c2];refine ⟨by omega,by omega,?_⟩;have hv:b.CX d=(9,b):=by unfold Be.CX;rw[c1];simp only[Int.toNat_natCast,c2,if_true]
     rw[hv];exact ⟨k,rfl,rfl⟩
   cases c3:decide (d.AJ.getD 0 0<1);rotate_left
   · simp only[go_sem,Aq,e1,KK.fit,B7,Cj,CS,c1,Ab,e2,Ax,hn0,Int.toNat_natCast,hg,c2,c3];refine ⟨by omega,by omega,?_⟩;have hv:b.CX d=(12,b):=by unfold Be.CX;rw[c1];simp only[Int.toNat_natCast,c2,c3,Bool.true_eq_false,if_false,if_true]
     rw[hv];exact ⟨k,rfl,rfl⟩
   cases c4:decide ((b.sp.getD n AP).AH<d.AJ.getD 0 0);rotate_left
   · simp only[go_sem,Aq,e1,KK.fit,B7,Cj,CS,c1,Ab,e2,Ax,hn0,Int.toNat_natCast,hg,c2,c3,c4];refine ⟨by omega,by omega,?_⟩;have hv:b.CX d=(12,b):=by unfold Be.CX;rw[c1];simp only[Int.toNat_natCast,c2,c3,c4,Bool.true_eq_false,Bool.false_eq_true,if_false,if_true]
     rw[hv];exact ⟨k,rfl,rfl⟩
   simp only[go_sem,Aq,e1,KK.fit,B7,Cj,CS,c1,Ab,e2,Ax,hn0,Int.toNat_natCast,hg,c2,c3,c4,CU];refine ⟨by omega,by omega,?_⟩;refine MW rfl rfl ?_;simp only[go_sem,HF];refine Sw (S7 b.pl ((n:Int),d.AJ.getD 0 0) (by omega)) ?_;rintro h' r ⟨rfl,rfl⟩;cases c5:decide (((n:Int),d.AJ.getD 0 0)∈b.pl);rotate_left
   · simp only[go_sem,c5];have hv:b.CX d=(13,b):=by unfold Be.CX;rw[c1];simp only[Int.toNat_natCast,c2,c3,c4,Bool.true_eq_false,Bool.false_eq_true,if_false,if_true,if_pos (of_decide_eq_true c5)]
     rw[hv];exact ⟨k,rfl,rfl⟩
   have c5':=of_decide_eq_false c5;cases c6:decide ((b.pl.length:Int)=8);rotate_left
   · simp only[go_sem,c5,c6,CU];have c6':b.pl.length=8:=by have:=of_decide_eq_true c6;omega
     have hv:b.CX d=(14,b):=by unfold Be.CX;rw[c1];simp only[Int.toNat_natCast,c2,c3,c4,Bool.true_eq_false,Bool.false_eq_true,if_false,if_true,if_neg c5',if_pos c6']
     rw[hv];exact ⟨k,rfl,rfl⟩
   have c6':¬b.pl.length=8:=by have:=of_decide_eq_false c6;omega
   simp only[go_sem,c5,c6,CU];refine ⟨⟨Cf _ _ rfl,by omega,by omega⟩,?_⟩;have hv:b.CX d=(0,{b with pl:=b.pl++[((n:Int),d.AJ.getD 0 0)]}):=by unfold Be.CX;rw[c1];simp only[Int.toNat_natCast,c2,c3,c4,Bool.true_eq_false,Bool.false_eq_true,if_false,if_neg c5',if_neg c6']
   rw[hv];refine ⟨k,?_,rfl⟩;simp only[Be.DB,Adt,CU,List.length_append,List.length_cons,List.length_nil,Nat.zero_add]
def Ds {α:Type} (p:α→Bool):Nat→List α→Int
 | _,[]=>-1
 | k,x::r=>if p x then (k:Int) else Ds p (k+1) r
theorem FN {α:Type} (p:α→Bool) (l:List α):∀(i:Nat),i≤l.length→(∀j x,j<i→l[j]?=some x→p x=false)→Ds p 0 l=Ds p i (l.drop i):=by
 intro i
 induction i with
 | zero=>intro _ _;rfl
 | succ i ih=>
   intro h1 h2;rw[ih (by omega) (fun j x hj hx=>h2 j x (by omega) hx),List.drop_eq_getElem_cons (by omega)];have:=h2 i l[i] (by omega) (List.getElem?_eq_getElem (by omega));simp[Ds,this]
theorem Abj (l:List (List UInt8)) (hl:l.length≤140737488355328) (g:FuncId) (p:List UInt8→Bool) (hp:∀x,Aj Tryz.prog g [.p (.str x)] [] fun h r=>h=[]∧r= .p (.bool (p x))):
   Aj Tryz.prog 157 [.p (.sl (AV l)),.fn g []] [] fun h r=>h=[]∧r= .p (.int .i64 (Ds p 0 l)):=by
 refine Ak Tryz.func157 rfl Acl (by simp[Tryz.f157]) ?_;simp only[go_sem,Aq];refine Ao (fun i=>⟨[(0,.p (.sl (AV l))),(1,.fn g []),(7,.p (.int .i64 (l.length:Nat))),(8,.p (.int .i64 (i:Nat)))],[],19⟩) (fun i=>i≤l.length∧∀j x,j<i→l[j]?=some x→p x=false) (fun i=>l.length - i) 0 ⟨Nat.zero_le _,by simp⟩
   (Wk.forget (by simp[Le,AG,Av,get,Aa,Ac,Ad,D.ids,Ai])) ?_
 rintro i n ⟨hi,he⟩ ih;simp only[go_sem];refine AK (fun h2=>?_) (fun h2=>?_)
 · have AL:i<l.length:=by simp at h2;omega
   simp only[go_sem,Aq,Int.toNat_natCast,BT l i AL];have hw:=As i (by omega);have hx:l[i]?=some (l.getD i []):=by simp[List.getD,AL]
   have NR:l.drop i=l.getD i []::l.drop (i+1):=by rw[List.drop_eq_getElem_cons AL];simp[List.getD,AL]
   refine ⟨by omega,Au (hp _) ?_⟩;rintro h' r ⟨rfl,rfl⟩;simp only[go_sem];cases hpx:p (l.getD i [])
   · simp only[go_sem,hw];refine ih (i+1) _ ⟨by omega,fun j x hj hjx=>?_⟩ (by omega) (Wk.forget (by simp[Le,AG,Av,get,Aa,Ac,Ad,D.ids,Ai]));rcases Nat.lt_succ_iff_lt_or_eq.1 hj with hj | rfl
     · exact he j x hj hjx
     · rw[hx] at hjx;cases hjx;exact hpx
   · simp only[go_sem];rw[FN p l i hi he,NR];simp only[Ds,hpx,if_true,and_self]
 · simp only[go_sem];have:i=l.length:=by simp at h2;omega
   rw[FN p l i hi he,this,List.drop_length];simp[Ds]
theorem Abk (l:List Int) (hl:l.length≤140737488355328) (g:FuncId) (p:Int→Bool) (hp:∀x,Aj Tryz.prog g [.p (.int .i64 x)] [] fun h r=>h=[]∧r= .p (.bool (p x))):
   Aj Tryz.prog 158 [.p (.sl (Ag l)),.fn g []] [] fun h r=>h=[]∧r= .p (.int .i64 (Ds p 0 l)):=by
 refine Ak Tryz.func158 rfl Ack (by simp[Tryz.f158]) ?_;simp only[go_sem,Ab];refine Ao (fun i=>⟨[(0,.p (.sl (Ag l))),(1,.fn g []),(7,.p (.int .i64 (l.length:Nat))),(8,.p (.int .i64 (i:Nat)))],[],19⟩) (fun i=>i≤l.length∧∀j x,j<i→l[j]?=some x→p x=false) (fun i=>l.length - i) 0 ⟨Nat.zero_le _,by simp⟩
   (Wk.forget (by simp[Le,AG,Av,get,Aa,Ac,Ad,D.ids,Ai])) ?_
 rintro i n ⟨hi,he⟩ ih;simp only[go_sem];refine AK (fun h2=>?_) (fun h2=>?_)
 · have AL:i<l.length:=by simp at h2;omega
   simp only[go_sem,Ab,Int.toNat_natCast,AD l i AL];have hw:=As i (by omega);have hx:l[i]?=some (l.getD i 0):=by simp[List.getD,AL]
   have NR:l.drop i=l.getD i 0::l.drop (i+1):=by rw[List.drop_eq_getElem_cons AL];simp[List.getD,AL]
   refine ⟨by omega,Au (hp _) ?_⟩;rintro h' r ⟨rfl,rfl⟩;simp only[go_sem];cases hpx:p (l.getD i 0)
   · simp only[go_sem,hw];refine ih (i+1) _ ⟨by omega,fun j x hj hjx=>?_⟩ (by omega) (Wk.forget (by simp[Le,AG,Av,get,Aa,Ac,Ad,D.ids,Ai]));rcases Nat.lt_succ_iff_lt_or_eq.1 hj with hj | rfl
     · exact he j x hj hjx
     · rw[hx] at hjx;cases hjx;exact hpx
   · simp only[go_sem];rw[FN p l i hi he,NR];simp only[Ds,hpx,if_true,and_self]
 · simp only[go_sem];have:i=l.length:=by simp at h2;omega
   rw[FN p l i hi he,this,List.drop_length];simp[Ds]
theorem VB (l:List (List UInt8)) (hl:l.length≤140737488355328) (g:FuncId) (p:List UInt8→Bool) (hp:∀x,Aj Tryz.prog g [.p (.str x)] [] fun h r=>h=[]∧r= .p (.bool (p x))):
   Aj Tryz.prog 125 [.p (.sl (AV l)),.fn g []] [] fun h r=>h=[]∧r= .p (.bool (decide (0≤Ds p 0 l))):=by
 refine Ak Tryz.func125 rfl Ad2 (by simp[Tryz.f125]) ?_;simp only[go_sem];refine Au (Abj l hl g p hp) ?_;rintro h' r ⟨rfl,rfl⟩;simp only[go_sem]
theorem VC (l:List Int) (hl:l.length≤140737488355328) (g:FuncId) (p:Int→Bool) (hp:∀x,Aj Tryz.prog g [.p (.int .i64 x)] [] fun h r=>h=[]∧r= .p (.bool (p x))):
   Aj Tryz.prog 127 [.p (.sl (Ag l)),.fn g []] [] fun h r=>h=[]∧r= .p (.bool (decide (0≤Ds p 0 l))):=by
 refine Ak Tryz.func127 rfl Ad0 (by simp[Tryz.f127]) ?_;simp only[go_sem];refine Au (Abk l hl g p hp) ?_;rintro h' r ⟨rfl,rfl⟩;simp only[go_sem]
theorem z7 (x:List UInt8):Aj Tryz.prog 126 [.p (.str x)] [] fun h r=>h=[]∧r= .p (.bool (!Bs x)):=by
 refine Ak Tryz.func126 rfl Ad1 (by simp[Tryz.f126]) ?_;simp only[go_sem];refine Au (Ny x) ?_;rintro h' r ⟨rfl,rfl⟩;simp only[go_sem]
theorem z6 (n:Int):Aj Tryz.prog 128 [.p (.int .i64 n)] [] fun h r=>h=[]∧r= .p (.bool (decide (n< -9999)||decide (9999<n))):=by
 refine Ak Tryz.func128 rfl Acz (by simp[Tryz.f128]) ?_;by_cases h1:n< -9999<;>by_cases h2:9999<n<;>
 · simp only[go_sem,h1,h2];try simp[h1,h2]
def A4 (w:Int):Int×Int:=if w=1 then (1,2) else if w=2 then (2,0) else if w=3∨w=4 then (3,1) else if w=5 then (1,1) else (0,4)
theorem Afr (w:Int):Aj Tryz.prog 72 [.p (.int .i64 w)] [] fun h r=>h=[]∧r= .BA [.p (.int .i64 (A4 w).1),.p (.int .i64 (A4 w).2)]:=by
 refine Ak Tryz.func72 rfl Aik (by simp[Tryz.f72]) ?_;by_cases h1:w=1
 · simp only[go_sem,h1];refine Bc ?_;simp only[go_sem];try simp[A4,h1]
 by_cases h2:w=2
 · simp only[go_sem,h2];refine Bc ?_;simp only[go_sem];try simp[A4,h2]
 by_cases h3:w=3
 · simp only[go_sem,h3];refine Bc ?_;simp only[go_sem];try simp[A4,h3]
 by_cases h4:w=4
 · simp only[go_sem,h4];refine Bc ?_;simp only[go_sem];try simp[A4,h4]
 by_cases h5:w=5
 · simp only[go_sem,h5];refine Bc ?_;simp only[go_sem];try simp[A4,h5]
 · simp only[go_sem,h1,h2,h3,h4,h5];refine Bc ?_;simp only[go_sem];try simp[A4,h1,h2,h3,h4,h5]
structure Fm where
 word:List UInt8
 fields:List UInt8
 more:Bool
def Fw:List Fm:=[⟨[],[],false⟩,⟨[98,108,111,99,107],[78,35,35],false⟩,⟨[108,97,110,101],[78,78],true⟩,⟨[115,116,97,116,105,111,110],[78,78,78,35],false⟩,
 ⟨[100,101,112,111,116],[78,78,78,35],false⟩,⟨[114,111,98,111,116],[78,35],false⟩,⟨[99,111,110,102,105,103],[35,35,35,35],false⟩]
def fmC (f:Fm):List Pd:=[.str f.word,.str f.fields,.bool f.more]
theorem RM:Aj Tryz.prog 92 [] [] fun h r=>h=[]∧r= .agg ((Fw.flatMap fmC).map .p):=by
 refine Ak Tryz.func92 rfl Ai9 (by simp[Tryz.f92]) ?_;simp only[go_sem];refine Bc ?_;simp only[go_sem];rfl
def Agp (num:Int) (fs:List (List UInt8)):List D:=[.p (.int .i64 num),.p (.sl (AV fs))]
theorem Aax (f:Fm) (num:Int) (w:List UInt8) (fs:List (List UInt8)):Aj Tryz.prog 107 [.agg ((fmC f).map .p),.ptr 1000000 0] [(1000000,.box (Agp num (w::fs)))] fun h r=>h=[(1000000,.box (Agp num (w::fs)))]∧r= .p (.bool (decide (f.word=w))):=by
 refine Ak Tryz.func107 rfl Adi (by simp[Tryz.f107]) ?_;unfold Agp fmC;simp only[go_sem];refine BB [(1000000,.box [.p (.int .i64 num),.p (.sl (AV (w::fs)))]),(2,.box [.p (.str f.word),.p (.str f.fields),.p (.bool f.more)])] mixed (p:=[(0,0),(1,0),(2,0),(3,0),(4,0),(5,0),(6,0),(7,0)]) (by kernel_rfl) (by simp[Av,get]) ?_;have h0:(AV (w::fs)).getD 0 []=[.str w]:=rfl;simp only[go_sem,Aq,h0];omega
def Adx (l:List Fm):List (List Pd):=l.map fmC
theorem XB (l:List Fm):(Adx l).length=l.length:=by simp[Adx]
theorem Ajs (l:List Fm) (i:Nat) (h:i<l.length):(Adx l).getD i []=[.str l[i].word,.str l[i].fields,.bool l[i].more]:=by simp[Adx,List.getD,h,fmC]
theorem Abl (l:List Fm) (hl:l.length≤140737488355328) (g:FuncId) (p:Fm→Bool) (x1 x2:Pd)
   (hp:∀x:Fm,Aj Tryz.prog g [.agg [.p (.str x.word),.p (.str x.fields),.p (.bool x.more)],.ptr 1000000 0] [(1000000,.box [.p x1,.p x2])] fun h r=>h=[(1000000,.box [.p x1,.p x2])]∧r= .p (.bool (p x))):
   Aj Tryz.prog 106 [.p (.sl (Adx l)),.fn g [.ptr 1000000 0]] [(1000000,.box [.p x1,.p x2])] fun h r=>h=[(1000000,.box [.p x1,.p x2])]∧r= .p (.int .i64 (Ds p 0 l)):=by
 refine Ak Tryz.func106 rfl Adj (by simp[Tryz.f106]) ?_;simp only[go_sem,XB];refine Ao (fun i=>⟨[(0,.p (.sl (Adx l))),(1,.fn g [.ptr 1000000 0]),(7,.p (.int .i64 (l.length:Nat))),(8,.p (.int .i64 (i:Nat)))],[(1000000,.box [.p x1,.p x2])],19⟩) (fun i=>i≤l.length∧∀j x,j<i→l[j]?=some x→p x=false) (fun i=>l.length - i) 0 ⟨Nat.zero_le _,by simp⟩
   (Wk.forget (by simp[Le,AG,Av,get,Aa,Ac,Ad,D.ids,Ai,AO.ids,Ae,base])) ?_
 rintro i n ⟨hi,he⟩ ih;simp only[go_sem];refine AK (fun h2=>?_) (fun h2=>?_)
 · have AL:i<l.length:=by simp at h2;omega
   simp only[go_sem,XB,Int.toNat_natCast,Ajs l i AL];have hw:=As i (by omega);have hx:l[i]?=some l[i]:=by simp
   have NR:l.drop i=l[i]::l.drop (i+1):=by rw[List.drop_eq_getElem_cons AL]
   refine ⟨by omega,Au (hp l[i]) ?_⟩;rintro h' r ⟨rfl,rfl⟩;simp only[go_sem];cases hpx:p l[i]
   · simp only[go_sem,hw];refine ih (i+1) _ ⟨by omega,fun j x hj hjx=>?_⟩ (by omega) (Wk.forget (by simp[Le,AG,Av,get,Aa,Ac,Ad,D.ids,Ai,AO.ids,Ae,base]));rcases Nat.lt_succ_iff_lt_or_eq.1 hj with hj | rfl
     · exact he j x hj hjx
     · rw[hx] at hjx;cases hjx;exact hpx
   · simp only[go_sem];rw[FN p l i hi he,NR];simp only[Ds,hpx,if_true,and_self]
 · simp only[go_sem];have:i=l.length:=by simp at h2;omega
   rw[FN p l i hi he,this,List.drop_length];simp[Ds]
def rd:Nat→List (List UInt8)→Dc→Dc×Int
 | _,[],d=>(d,0)
 | 0,s::r,d=>if (Q5 s).2 then rd 0 r {d with AJ:=d.AJ++[(Q5 s).1]} else (Im,7)
 | k+1,s::r,d=>if Bs s then rd k r {d with names:=d.names++[s]} else (Im,6)
def Ct (j:Nat):Fm:=Fw.getD j ⟨[],[],false⟩
def J9 (w:List UInt8):Int:=Ds (fun f:Fm=>decide (f.word=w)) 0 Fw.tail+1
def Q4 (num:Int) (fs:List (List UInt8)):Dc×Int:=
 match fs with
 | []=>(Im,20)
 | w::rest=>
   if J9 w=0 then (Im,4)
   else if (rest.length:Int)<(A4 (J9 w)).1+(A4 (J9 w)).2∨((A4 (J9 w)).1+(A4 (J9 w)).2<(rest.length:Int)∧J9 w≠2) then (Im,5)
   else rd (rest.length - (A4 (J9 w)).2.toNat) rest ⟨J9 w,num,[],[]⟩
theorem T8 {α:Type} (p:α→Bool):∀(l:List α) (k:Nat),Ds p k l=-1∨∃i:Nat,i<l.length∧Ds p k l=((k+i:Nat):Int)
 | [],k=> .inl rfl
 | x::r,k=>by
   simp only[Ds];split
   · exact .inr ⟨0,by simp,rfl⟩
   · rcases T8 p r (k+1) with h | ⟨i,h1,h2⟩
     · exact .inl h
     · exact .inr ⟨i+1,by simp;omega,by rw[h2];omega⟩
theorem u9 (w:List UInt8):∃j:Nat,j<7∧J9 w=(j:Nat):=by
 rcases T8 (fun f:Fm=>decide (f.word=w)) Fw.tail 0 with h | ⟨i,h1,h2⟩
 · exact ⟨0,by omega,by rw[J9,h];rfl⟩
 · have:Fw.tail.length=6:=rfl;exact ⟨i+1,by omega,by rw[J9,h2];omega⟩
theorem MG (j:Nat) (h:j<7):((Fw.flatMap fmC).drop (j*3)).take 3=[.str (Ct j).word,.str (Ct j).fields,.bool (Ct j).more]:=by
 rcases j with _ | _ | _ | _ | _ | _ | _ | j
 all_goals first | rfl | omega
theorem Xi (j:Nat) (h:j<7) (h0:1≤j):((Ct j).fields.length:Int)=(A4 j).1+(A4 j).2∧(∀i:Nat,i<(Ct j).fields.length→((((Ct j).fields.getD i 0).toNat:Int)=35↔(A4 j).1≤(i:Int)))∧(Ct j).more=decide ((j:Int)=2)∧0≤(A4 j).1∧0≤(A4 j).2:=by
 rcases j with _ | _ | _ | _ | _ | _ | _ | j
 · omega
 all_goals first | omega | skip
 all_goals
   refine ⟨by decide,?_,by decide,by decide,by decide⟩;intro i hi;rcases i with _ | _ | _ | _ | i
   all_goals first | decide | (exfalso;simp[Ct,Fw] at hi;done) | (exfalso;simp[Ct,Fw] at hi;omega)
theorem IN:(Fw.flatMap fmC).length=21:=by decide
theorem Ag9 (num:Int) (fs:List (List UInt8)) (hfs:fs.length≤10000000):Aj Tryz.prog 62 [.agg [.p (.int .i64 num),.p (.sl (AV fs))]] [] fun h r=>h=[]∧r= .BA [(Q4 num fs).1.d,.p (.int .i64 (Q4 num fs).2)]:=by
 refine Ak Tryz.func62 rfl Air (by simp[Tryz.f62]) ?_;cases fs with
 | nil=>
   simp only[go_sem,Aq];refine Ah ?_;simp only[go_sem];try simp[Q4,Im,Dc.d,AV,Ag]
 | cons w rest=>
   have BC:¬((rest.length+1:Nat):Int)=0:=by omega
   simp only[go_sem,Aq,BC];refine Au RM ?_;rintro h' r ⟨rfl,rfl⟩;simp only[go_sem,IN];refine Av2 (Wk.seal (t:=4) (id:=4) (xs:=Fw.flatMap fmC) (env1:=[(3,.p (.int .i64 0)),(2,.ptr 2 0),(1,.ptr 1 0)]) (hp1:=[(2,.box [.p (.int .i64 0),.p (.int .i64 0),.cl [],.cl []]),(1,.box [.p (.int .i64 num),.p (.sl (AV (w::rest)))])]) rfl rfl rfl
     (by simp[Le,AG,Av,get,Aa,Ac,Ad,D.ids,Ai,AO.ids,base])) ?_
   simp only[go_sem];refine Yc (L:=1) rfl Aob Aoc rfl rfl (by decide) IN (by decide) ?_;simp only[go_sem];refine Au (Abl Fw.tail (by decide) 107 (fun f=>decide (f.word=w)) _ _ (fun x=>Aax x num w rest)) ?_;rintro h' r ⟨rfl,rfl⟩;obtain ⟨j,hj,hjw⟩:=u9 w;have Ve:IntKind.i64.wrap (Ds (fun f:Fm=>decide (f.word=w)) 0 Fw.tail+1)=(j:Int):=by
     have h1:Ds (fun f:Fm=>decide (f.word=w)) 0 Fw.tail+1=(j:Int):=hjw;rw[h1,An]<;>omega
   by_cases TV:(j:Int)=0
   · simp only[go_sem,Ve,TV];refine Ah ?_;simp only[go_sem];simp[Q4,hjw,TV,Im,Dc.d,AV,Ag]
   have hjp:(0:Int)≤j∧(j:Int)<7:=by omega
   have hfc:=MG j hj;have M6:0+3≤(List.drop (j*3) (Fw.flatMap fmC)).length:=by rw[List.length_drop,IN];omega
   have S1:List.drop 1 (List.take (rest.length+1) (AV (w::rest)))=AV rest:=by
     rw[List.take_of_length_le (by simp[AV])];rfl
   have W1:I1 1 (AV (w::rest)):=by simp[I1,AV]
   have Amr:(1:Int)≤((rest.length+1:Nat):Int):=by omega
   simp only[go_sem,Ve,TV];refine BB [(2,.box [.p (.int .i64 0),.p (.int .i64 0),.cl [],.cl []]),(1,.box [.p (.int .i64 num),.p (.sl (AV (w::rest)))])] mixed (p:=[(0,0),(1,0),(2,0),(3,0),(4,0),(5,0),(6,1),(7,2),(8,0)]) (by kernel_rfl) (by simp[Av,get]) ?_;obtain ⟨JT,KN,Ym,hs4,hs5⟩:=Xi j hj (by omega);have h2b:(j:Int)=2→(A4 j).2=0:=by intro h;rw[h];rfl
   have LV:Q4 num (w::rest)=if (rest.length:Int)<(A4 j).1+(A4 j).2∨((A4 j).1+(A4 j).2<(rest.length:Int)∧(j:Int)≠2) then (Im,5) else rd (rest.length - (A4 j).2.toNat) rest ⟨j,num,[],[]⟩:=by
     simp only[Q4,hjw,TV,if_false]
   rw[LV];generalize hfe:(Ct j).fields=sig at*;generalize hfo:(Ct j).more=more at*;generalize hA:(A4 j).1=a at*;generalize hB:(A4 j).2=b at*;by_cases hl1:(rest.length:Int)<(sig.length:Int)
   · simp only[go_sem,Int.toNat_natCast,hfc,M6,Aq,S1,W1,hjp,Amr,Int.le_refl,hl1];refine Ah ?_;simp only[go_sem];rw[if_pos (.inl (by omega))];simp[Im,Dc.d,AV,Ag]
   by_cases RE:(sig.length:Int)<(rest.length:Int)∧more=false
   · simp only[go_sem,Int.toNat_natCast,hfc,M6,Aq,S1,W1,hjp,Amr,Int.le_refl,hl1,RE];refine Ah ?_;simp only[go_sem];rw[if_pos (.inr ⟨by omega,by have:=RE.2;rw[Ym] at this;simpa using this⟩)];simp[Im,Dc.d,AV,Ag]
   have hl3:(sig.length:Int)<(rest.length:Int)→(j:Int)=2∧more=true:=by
     intro h;cases more
     · exact (RE ⟨h,rfl⟩).elim
     · exact ⟨by simpa using Ym.symm,rfl⟩
   have hgo:(if (rest.length:Int)<a+b∨(a+b<(rest.length:Int)∧(j:Int)≠2) then (Im,(5:Int)) else rd (rest.length - b.toNat) rest ⟨j,num,[],[]⟩)=rd (rest.length - b.toNat) rest ⟨j,num,[],[]⟩:=by
     rw[if_neg];omega
   rw[hgo];generalize hK:rest.length - b.toNat=K;by_cases hl5:(sig.length:Int)<(rest.length:Int);all_goals
     first
       | simp only[go_sem,Int.toNat_natCast,hfc,M6,Aq,S1,W1,hjp,Amr,Int.le_refl,hl1,hl5,(hl3 hl5).2]
       | simp only[go_sem,Int.toNat_natCast,hfc,M6,Aq,S1,W1,hjp,Amr,Int.le_refl,hl1,hl5]
     refine Ao (fun q:Nat×List (List UInt8)×List Int=>⟨[(2,.ptr 2 0),(6,.ptr 6 0),(8,.ptr 8 0),(56,.p (.sl (AV rest))),(57,.p (.int .i64 (rest.length:Nat))),(58,.p (.int .i64 (q.1:Nat)))],
         [(2,.box [.p (.int .i64 0),.p (.int .i64 0),.cl [],.cl []]),(6,.box [.p (.str (Ct j).word),.p (.str sig),.p (.bool more)]),
          (8,.box [.p (.int .i64 j),.p (.int .i64 num),.ref 97 0 q.2.1.length q.2.1.length,.ref 87 0 q.2.2.length q.2.2.length]),(97,.arr 9 1 (AV q.2.1)),(87,.arr 3 1 (Ag q.2.2))],101⟩)
       (fun q=>q.1≤rest.length∧q.2.1.length≤q.1∧q.2.2.length≤q.1∧rd (K - q.1) (rest.drop q.1) ⟨j,num,q.2.1,q.2.2⟩=rd K rest ⟨j,num,[],[]⟩)
       (fun q=>rest.length - q.1) (0,[],[]) ⟨Nat.zero_le _,by simp,by simp,by simp⟩ ?_ ?_
     · refine (Wk.E3 (id:=8) (j:=2) (q:=97) (sz:=1) 9 rfl rfl rfl (by decide)).trans ((Wk.E3 (id:=8) (j:=3) (q:=87) (sz:=1) 3 rfl rfl rfl (by decide)).trans ?_);first
         | (refine Wk.forget ?_;simp[Le,AG,Av,get,Aa,Ac,Ad,D.ids,Ai,AO.ids,Ae,base,AV,Ag];done)
         | (refine Wk.forget ?_;simp[Le,AG,Av,get,Aa,Ac,Ad,D.ids,Ai,AO.ids,Ae,base,AV,Ag,(hl3 hl5).2];done)
     rintro ⟨i,ns,ks⟩ n ⟨hi,W8,hn2,he⟩ ih;simp only at hi W8 hn2 he;simp only[go_sem];refine AK (fun h2=>?_) (fun h2=>?_)
     · have AL:i<rest.length:=by simp at h2;omega
       have hw:=As i (by simp at hfs;omega);have RH:rest.drop i=rest.getD i []::rest.drop (i+1):=by rw[List.drop_eq_getElem_cons AL];simp[List.getD,AL]
       rw[RH] at he;simp only[List.length_cons] at hfs;have S0:(i:Int)<(rest.length:Int):=by omega
       have Bm:(0:Int)≤(i:Int):=by omega
       generalize hs:rest.getD i []=s at he;have number:K - i=0→(Q5 s).2=true→rd (K - (i+1)) (rest.drop (i+1)) ⟨j,num,ns,ks++[(Q5 s).1]⟩=rd K rest ⟨j,num,[],[]⟩:=by
         intro h0 h1;rw[←he,h0];simp only[rd,h1,if_true];congr 1;omega
       have Alw:K - i=0→(Q5 s).2=false→rd K rest ⟨j,num,[],[]⟩=(Im,7):=by
         intro h0 h1;rw[←he,h0];simp only[rd,h1];rfl
       have name:i<K→Bs s=true→rd (K - (i+1)) (rest.drop (i+1)) ⟨j,num,ns++[s],ks⟩=rd K rest ⟨j,num,[],[]⟩:=by
         intro h0 h1;rw[←he,show K - i=(K - (i+1))+1 by omega];simp only[rd,h1,if_true]
       have Aog:i<K→Bs s=false→rd K rest ⟨j,num,[],[]⟩=(Im,6):=by
         intro h0 h1;rw[←he,show K - i=(K - (i+1))+1 by omega];simp only[rd,h1];rfl
       by_cases hsi:(i:Int)<(sig.length:Int)
       · by_cases Ov:((sig.getD i 0).toNat:Int)=35
         · have hK0:K - i=0:=by have:=(KN i (by omega)).1 Ov;omega
           simp only[go_sem,Int.toNat_natCast,Aq,BT rest i AL,hs,hsi,Ov,S0,Bm];refine Au (YX _) ?_;rintro h' r ⟨rfl,rfl⟩;cases p4:(Q5 s).2
           · simp only[go_sem,p4];refine Ah ?_;simp only[go_sem];rw[Alw hK0 p4];simp[Im,Dc.d,AV,Ag]
           · simp only[go_sem,p4,hw,Ab];refine ⟨⟨Cf _ _ rfl,by omega⟩,?_⟩;refine ih (i+1,ns,ks++[(Q5 s).1]) _ ⟨AL,by simp only;omega,by simp only[List.length_append,List.length_cons,List.length_nil];omega,number hK0 p4⟩ (by simp only;omega) ?_
             (refine Wk.forget ?_;simp[Le,AG,Av,get,Aa,Ac,Ad,D.ids,Ai,AO.ids,Ae,base,Cq,Ab];done)
         · have hK0:i<K:=by have:=(KN i (by omega)).2;omega
           simp only[go_sem,Int.toNat_natCast,Aq,BT rest i AL,hs,hsi,Ov,S0,Bm];refine Au (Ny _) ?_;rintro h' r ⟨rfl,rfl⟩;cases p4:Bs s
           · simp only[go_sem,p4];refine Ah ?_;simp only[go_sem];rw[Aog hK0 p4];simp[Im,Dc.d,AV,Ag]
           · simp only[go_sem,p4,hw,Aq];refine ⟨⟨Cf _ _ rfl,by omega⟩,?_⟩;refine ih (i+1,ns++[s],ks) _ ⟨AL,by simp only[List.length_append,List.length_cons,List.length_nil];omega,by simp only;omega,name hK0 p4⟩ (by simp only;omega) ?_
             (refine Wk.forget ?_;simp[Le,AG,Av,get,Aa,Ac,Ad,D.ids,Ai,AO.ids,Ae,base,CP,Aq];done)
       · have hK0:i<K:=by
           have hl6:(sig.length:Int)<(rest.length:Int):=by omega
           have:=h2b (hl3 hl6).1;omega
         simp only[go_sem,Int.toNat_natCast,Aq,BT rest i AL,hs,hsi,S0,Bm];refine Au (Ny _) ?_;rintro h' r ⟨rfl,rfl⟩;cases p4:Bs s
         · simp only[go_sem,p4];refine Ah ?_;simp only[go_sem];rw[Aog hK0 p4];simp[Im,Dc.d,AV,Ag]
         · simp only[go_sem,p4,hw,Aq];refine ⟨⟨Cf _ _ rfl,by omega⟩,?_⟩;refine ih (i+1,ns++[s],ks) _ ⟨AL,by simp only[List.length_append,List.length_cons,List.length_nil];omega,by simp only;omega,name hK0 p4⟩ (by simp only;omega) ?_
           (refine Wk.forget ?_;simp[Le,AG,Av,get,Aa,Ac,Ad,D.ids,Ai,AO.ids,Ae,base,CP,Aq];done)
     · simp only[go_sem];have Zv:i=rest.length:=by simp at h2;omega
       subst Zv;refine Ah ?_;simp only[go_sem];rw[List.drop_length] at he;simp only[rd] at he;rw[←he];try rw[G5 _ _ (Nat.le_refl _)]
       try rw[EM _ _ (Nat.le_refl _)]
       simp[Dc.d,Aq,Ab]
def BD (d:Dc):Bool:=
 decide (1≤d.word∧d.word≤6)&&(decide ((d.AJ.length:Int)=(A4 d.word).2)&&((decide ((d.names.length:Int)=(A4 d.word).1)||(decide ((A4 d.word).1<(d.names.length:Int))&&decide (d.word=2)))&&
   (d.names.all Bs&&d.AJ.all fun n=>!(decide (n< -9999)||decide (9999<n)))))
theorem N0 {α:Type} (p:α→Bool):∀(l:List α) (k:Nat),0≤Ds p k l↔l.any p=true
 | [],k=>by simp[Ds]
 | x::r,k=>by
   simp only[Ds,List.any_cons];by_cases h:p x=true
   · rw[if_pos h];simp[h]
   · rw[if_neg h,N0 p r (k+1)];simp[h]
theorem Ac9 {α:Type} (p:α→Bool) (l:List α) (k:Nat):decide (0≤Ds p k l)=l.any p:=by
 rw[Bool.eq_iff_iff,decide_eq_true_eq,N0]
theorem ZI (j:Nat) (h:j<7):∀b∈(Ct j).fields,b.toNat<128:=by
 rcases j with _ | _ | _ | _ | _ | _ | _ | j
 all_goals first | decide | omega
theorem Wa (d:Dc) (hd:d.names.length≤10000000∧d.AJ.length≤10000000):Aj Tryz.prog 91 [d.d] [] fun h r=>h=[]∧r= .p (.bool (BD d)):=by
 obtain ⟨word,line,names,AJ⟩:=d;simp only at hd;refine Ak Tryz.func91 rfl Aia (by simp[Tryz.f91]) ?_;by_cases h1:word<1
 · have hv:BD ⟨word,line,names,AJ⟩=false:=by simp[BD];intro h;omega
   simp only[go_sem,Dc.d,h1,hv]
 by_cases h2:6<word
 · have hv:BD ⟨word,line,names,AJ⟩=false:=by simp[BD];intro h;omega
   simp only[go_sem,Dc.d,h1,h2,hv]
 obtain ⟨j,rfl⟩:∃j:Nat,word=(j:Int):=⟨word.toNat,by omega⟩;have hj:j<7:=by omega
 have hfc:=MG j hj;have M6:j*3+3≤(Fw.flatMap fmC).length:=by rw[IN];omega
 obtain ⟨JT,KN,Ym,hs4,hs5⟩:=Xi j hj (by omega);have Axf:=ZI j hj;have hsl:(Ct j).fields.length≤4:=by
   rcases j with _ | _ | _ | _ | _ | _ | _ | j
   all_goals first | decide | omega
 have TV:(0:Int)≤(j:Int)∧(j:Int)<7:=by omega
 have hdt:List.take 3 (List.drop (j*3) (List.map D.p (Fw.flatMap fmC)))=[.p (.str (Ct j).word),.p (.str (Ct j).fields),.p (.bool (Ct j).more)]:=by
   rw[←List.map_drop,←List.map_take,hfc];rfl
 simp only[go_sem,Dc.d,h1,h2];refine AY mixed (p:=[(1,0),(2,0),(4,1),(0,2),(3,0),(5,2),(6,0),(7,0)]) (by kernel_rfl) (by simp[Av,get]) ?_;simp only[go_sem];refine Bu RM ?_;rintro h' r ⟨rfl,rfl⟩;have hv:BD ⟨j,line,names,AJ⟩=(decide ((AJ.length:Int)=(A4 j).2)&&((decide ((names.length:Int)=(A4 j).1)||(decide ((A4 j).1<(names.length:Int))&&decide ((j:Int)=2)))&&
   (names.all Bs&&AJ.all fun n=>!(decide (n< -9999)||decide (9999<n))))):=by
   have:decide ((1:Int)≤j∧(j:Int)≤6)=true:=by simp;omega
   simp only[BD,this,Bool.true_and]
 rw[hv,←Ym];clear hv Ym;generalize hfe:(Ct j).fields=sig at*;generalize hfo:(Ct j).more=more at*;generalize hA:(A4 j).1=a at*;generalize hB:(A4 j).2=b at*;simp only[go_sem,Int.toNat_natCast,M6,hdt,TV];refine Al3 rfl rfl ti9 rfl rfl ?_;simp only[go_sem];refine Ao (fun i=>⟨[(1,.ptr 1 0),(3,.ptr 3 0),(22,.ptr 22 0),(4,.p (.int .i64 (min i a.toNat:Nat))),(5,.p (.int .i64 (i - a.toNat:Nat)))],
     [(1,.box [.p (.int .i64 j),.p (.int .i64 line),.p (.sl (AV names)),.p (.sl (Ag AJ))]),(3,.box [.p (.str (Ct j).word),.p (.str sig),.p (.bool more)]),(22,.iter sig i)],67⟩)
   (fun i=>i≤sig.length) (fun i=>sig.length - i) 0 (Nat.zero_le _) (Wk.forget (by simp[Le,AG,Av,get,Aa,Ac,Ad,D.ids,Ai,AO.ids,Ae,base,Nat.zero_min,Nat.zero_sub])) ?_
 rintro i n hi ih;simp only[go_sem];refine Ao5 rfl rfl rfl Axf (fun AL=>?_) (fun hge=>?_)
 · have Ov:=KN i AL;have Gl:sig.getD i 0=sig[i]:=by simp[List.getD,AL]
   rw[Gl] at Ov;simp only[go_sem];by_cases hc:(sig[i].toNat:Int)=35
   · have hai:=Ov.1 hc;have hw:IntKind.i64.wrap (((i - a.toNat:Nat):Int)+1)=((i+1 - a.toNat:Nat):Int):=by rw[An]<;>omega
     simp only[go_sem,hc,hw];refine ih (i+1) _ AL (by omega) ?_;have e1:min (i+1) a.toNat=min i a.toNat:=by omega
     rw[e1]
     (refine Wk.forget ?_;simp[Le,AG,Av,get,Aa,Ac,Ad,D.ids,Ai,AO.ids,Ae,base];done)
   · have hai:¬a≤(i:Int):=fun h=>hc (Ov.2 h);have hw:IntKind.i64.wrap (((min i a.toNat:Nat):Int)+1)=((min (i+1) a.toNat:Nat):Int):=by rw[An]<;>omega
     simp only[go_sem,hc,hw];refine ih (i+1) _ AL (by omega) ?_;have e1:i+1 - a.toNat=i - a.toNat:=by omega
     rw[e1]
     (refine Wk.forget ?_;simp[Le,AG,Av,get,Aa,Ac,Ad,D.ids,Ai,AO.ids,Ae,base];done)
 · have S0:i=sig.length:=by omega
   have e4:((min i a.toNat:Nat):Int)=a:=by omega
   have e5:((i - a.toNat:Nat):Int)=b:=by omega
   simp only[go_sem,Ab,Aq,e4,e5];clear ih;have k1:=VB names (by omega) 126 (fun x=>!Bs x) z7;have k2:=VC AJ (by omega) 128 (fun n=>decide (n< -9999)||decide (9999<n)) z6;rw[Ac9] at k1 k2;cases c1:decide ((AJ.length:Int)=b)
   · simp only[go_sem,c1];try simp
   cases c2:decide ((names.length:Int)=a)
   · cases c3:decide (a<(names.length:Int))
     · simp only[go_sem,c1,Ab,Aq,e4,e5,c2,c3];try simp
     cases more
     · simp only[go_sem,c1,Ab,Aq,e4,e5,c2,c3];try simp
     simp only[go_sem,c1,Ab,Aq,e4,e5,c2,c3];refine Au k1 ?_;rintro h' r ⟨rfl,rfl⟩;cases c4:names.any fun x=>!Bs x
     · have c4':names.all Bs=true:=by
         rw[List.all_eq_not_any_not,c4];rfl
       simp only[go_sem,c4];refine Au k2 ?_;rintro h' r ⟨rfl,rfl⟩;simp only[go_sem];rw[c4',List.all_eq_not_any_not];try simp
     · have c4':names.all Bs=false:=by
         rw[List.all_eq_not_any_not,c4];rfl
       simp only[go_sem,c4];rw[c4'];try simp
   · simp only[go_sem,c1,Ab,Aq,e4,e5,c2];refine Au k1 ?_;rintro h' r ⟨rfl,rfl⟩;cases c4:names.any fun x=>!Bs x
     · have c4':names.all Bs=true:=by
         rw[List.all_eq_not_any_not,c4];rfl
       simp only[go_sem,c4];refine Au k2 ?_;rintro h' r ⟨rfl,rfl⟩;simp only[go_sem];rw[c4',List.all_eq_not_any_not];try simp
     · have c4':names.all Bs=false:=by
         rw[List.all_eq_not_any_not,c4];rfl
       simp only[go_sem,c4];rw[c4'];try simp
def Be.KE:Be→List (List UInt8)→Int×Be
 | b,x::y::r=>if (b.EG x y).1=0 then Be.KE (b.EG x y).2 (y::r) else b.EG x y
 | b,_=>(0,b)
def Be.GH (b:Be) (d:Dc):Int×Be:=
 if BD d=false then (20,b) else if decide (d.word=1)=true then b.FP d else if decide (d.word=2)=true then b.KE d.names else
   if decide (d.word=5)=true then b.CX d else if decide (d.word=6)=true then b.DX d else b.D8 d
structure BI (b:Be):Prop where
 nb:b.bl.length≤24
 nn:b.nx.length=b.bl.length
 mb:∀x i,Cz b.mb x=some i→∃n:Nat,i=(n:Int)∧n<b.bl.length
 ms:∀x i,Cz b.ms x=some i→∃n:Nat,i=(n:Int)∧n<b.sp.length
 row:∀i,(b.nx.getD i []).length≤4
 ns:b.sp.length≤6
 nba:b.ba.length=b.sp.length
 sl:0≤b.sl∧b.sl≤4*b.sp.length
 np:b.pl.length≤8
 bas:∀x∈b.ba,0≤x∧x≤24
 sps:∀s∈b.sp,1≤s.AH∧s.AH≤4
 pls:∀p∈b.pl,(∃n:Nat,p.1=(n:Int)∧n<b.sp.length)∧1≤p.2∧p.2≤4
theorem Ly (p:List UInt8×Int) (r:List (List UInt8×Int)) (x:List UInt8):Cz (p::r) x=if p.1=x then some p.2 else Cz r x:=by
 unfold Cz;rw[List.find?_cons];by_cases h:p.1=x
 · simp[h]
 · rw[if_neg h,beq_eq_false_iff_ne.2 h]
theorem Aaq (p:List UInt8×Int) (r:List (List UInt8×Int)) (k:List UInt8) (v:Int):FD (p::r) k v=if p.1=k then (k,v)::r else p::FD r k v:=rfl
theorem T2 (m:List (List UInt8×Int)) (k:List UInt8) (v:Int) (x:List UInt8):Cz (FD m k v) x=if x=k then some v else Cz m x:=by
 induction m with
 | nil=>
   have:FD [] k v=[(k,v)]:=rfl;rw[this,Ly];by_cases h:x=k
   · rw[if_pos h,if_pos h.symm]
   · rw[if_neg h,if_neg (Ne.symm h)]
 | cons p r ih=>
   rw[Aaq,Ly];by_cases h:p.1=k
   · rw[if_pos h,Ly];by_cases h2:x=k
     · rw[if_pos h2,if_pos h2.symm]
     · rw[if_neg h2,if_neg (Ne.symm h2),if_neg (fun e=>h2 (by rw[←e,←h]))]
   · rw[if_neg h,Ly,ih];by_cases h2:p.1=x
     · rw[if_pos h2,if_pos h2,if_neg (fun e=>h (by rw[h2,e]))]
     · rw[if_neg h2,if_neg h2]
theorem BI.block {b:Be} (h:BI b) (d:Dc):BI (b.FP d).2:=by
 unfold Be.FP;split
 · exact h
 · split
   · exact h
   · rename_i h1 h2;have hl:b.bl.length<24:=by have:=h.nb;omega
     refine ⟨by simp;omega,by simp[h.nn],fun x i hx=>?_,h.ms,fun i=>?_,h.ns,h.nba,h.sl,h.np,h.bas,h.sps,h.pls⟩
     · simp only[T2] at hx;split at hx
       · cases hx;exact ⟨_,rfl,by simp⟩
       · obtain ⟨n,h3,h4⟩:=h.mb x i hx;exact ⟨n,h3,by simp;omega⟩
     · simp only[List.getD,List.getElem?_append];split
       · have:=h.row i;simpa [List.getD] using this
       · rcases hj:i - b.nx.length with _ | j<;>simp
theorem BI.lane {b:Be} (h:BI b) (x y:List UInt8):BI (b.EG x y).2:=by
 unfold Be.EG;split
 · rename_i i j h1 h2;split
   · exact h
   · split
     · exact h
     · split
       · exact h
       · rename_i h3 h4 h5;obtain ⟨n,rfl,hn⟩:=h.mb x i h1;refine ⟨h.nb,by simp[h.nn],h.mb,h.ms,fun k=>?_,h.ns,h.nba,h.sl,h.np,h.bas,h.sps,h.pls⟩;simp only[Int.toNat_natCast] at h5 ⊢;have hr:=h.row n;have hrk:=h.row k;simp only[List.getD,List.getElem?_set];split
         · rename_i e;subst e;split
           · simp only[Option.getD_some,List.length_append,List.length_cons,List.length_nil];simp only[List.getD] at h5 hr;omega
           · simp
         · simpa [List.getD] using hrk
 · exact h
theorem BI.Aoh:∀{l:List (List UInt8)} {b:Be},BI b→BI (b.KE l).2
 | [],b,h=>h
 | [x],b,h=>h
 | x::y::r,b,h=>by
   simp only[Be.KE];split
   · exact BI.Aoh (h.lane x y)
   · exact h.lane x y
theorem BI.Avz {b:Be} (h:BI b) (d:Dc):BI (b.D8 d).2:=by
 unfold Be.D8;split
 · exact h
 · split
   · split
     · exact h
     · split
       · exact h
       · split
         · exact h
         · rename_i h1 h2 h3;simp only[decide_eq_true_eq] at h1 h2;have h4:=h.ns;have h5:=h.sl;refine ⟨h.nb,h.nn,h.mb,fun x i hx=>?_,h.row,by simp;omega,by simp[h.nba],by simp only[List.length_append,List.length_cons,List.length_nil];omega,h.np,fun x hx=>?_,fun s hs=>?_,fun p hp=>?_⟩;simp only[T2] at hx;split at hx
           · cases hx;exact ⟨_,rfl,by simp⟩
           · obtain ⟨n,h6,h7⟩:=h.ms x i hx;exact ⟨n,h6,by simp;omega⟩
           · rcases List.mem_append.1 hx with hx | hx
             · exact h.bas x hx
             · simp only[List.mem_singleton] at hx;subst hx;omega
           · rcases List.mem_append.1 hs with hs | hs
             · exact h.sps s hs
             · simp only[List.mem_singleton] at hs;subst hs;simp only;omega
           · obtain ⟨⟨n,h6,h7⟩,h8⟩:=h.pls p hp;exact ⟨⟨n,h6,by simp;omega⟩,h8⟩
   · exact h
theorem BI.Asd {b:Be} (h:BI b) (d:Dc):BI (b.CX d).2:=by
 unfold Be.CX;split
 · exact h
 · rename_i i hi;split
   · exact h
   split
   · exact h
   split
   · exact h
   split
   · exact h
   split
   · exact h
   rename_i h1 h2 h3 h4 h5;obtain ⟨n,rfl,hn⟩:=h.ms _ _ hi;simp only[decide_eq_true_eq,Int.toNat_natCast] at h2 h3;have hs:=h.sps (b.sp.getD n AP) (A7 b.sp n AP hn);refine ⟨h.nb,h.nn,h.mb,h.ms,h.row,h.ns,h.nba,h.sl,?_,h.bas,h.sps,fun p hp=>?_⟩
   · have:=h.np;simp;omega
   · rcases List.mem_append.1 hp with hp | hp
     · exact h.pls p hp
     · simp only[List.mem_singleton] at hp;subst hp;exact ⟨⟨n,rfl,hn⟩,by omega,by omega⟩
theorem BI.config {b:Be} (h:BI b) (d:Dc):BI (b.DX d).2:=by
 unfold Be.DX
 repeat' split
 all_goals first | exact h | skip
 exact ⟨h.nb,h.nn,h.mb,h.ms,h.row,h.ns,h.nba,h.sl,h.np,h.bas,h.sps,h.pls⟩
theorem BI.add {b:Be} (h:BI b) (d:Dc):BI (b.GH d).2:=by
 unfold Be.GH
 repeat' split
 · exact h
 · exact h.block d
 · exact h.Aoh
 · exact h.Asd d
 · exact h.config d
 · exact h.Avz d
theorem V9 {d:Dc} (h:BD d=true):(1≤d.word∧d.word≤6)∧(d.AJ.length:Int)=(A4 d.word).2∧(A4 d.word).1≤(d.names.length:Int):=by
 simp only[BD,Bool.and_eq_true,decide_eq_true_eq,Bool.or_eq_true] at h;obtain ⟨h1,h2,h3,_⟩:=h;exact ⟨h1,h2,by omega⟩
theorem Ar5 (b:Be) (k:Nat) (d:Dc) (h:BI b) (hd:d.names.length≤10000000∧d.AJ.length≤10000000):
   Aj Tryz.prog 63 [.ptr 1000000 0,d.d] (b.h k) fun h r=>∃k',h=(b.GH d).2.h k'∧r= .p (.int .i64 (b.GH d).1):=by
 have v:=Wa d hd;have v1:=fun h1 h2=>Akj b k d h1 h2 h.nb (by rw[h.nn];exact h.nb);have v5:=fun h1 h2=>Afw b k d h1 h2 h.np h.ms;have v6:=Ae7 b k d;have v3:=fun h1 h2=>Ali b k d h1 h2 h.ns (by rw[h.nba];exact h.ns) ⟨h.sl.1,by have:=h.sl.2;have:=h.ns;omega⟩;have hs:=@V9 d;unfold Dc.d at v v1 v5 v6 v3 ⊢;refine Ak Tryz.func63 rfl Aiq (by simp[Tryz.f63]) ?_;rw[Be.DB b k];simp only[go_sem];refine Au v ?_;rintro h' r ⟨rfl,rfl⟩;cases c0:BD d
 · have hv:b.GH d=(20,b):=by unfold Be.GH;rw[if_pos c0]
   simp only[go_sem,c0,hv];first | exact ⟨k,rfl,rfl⟩ | exact ⟨k,rfl⟩
 have hs:=hs c0;cases c1:decide (d.word=1);rotate_left
 · have e1:d.word=1:=of_decide_eq_true c1;rw[e1] at hs;simp[A4] at hs;simp only[go_sem,c0,c1];refine Au (v1 (by omega) (by omega)) ?_;rintro h' r ⟨k',rfl,rfl⟩;have hv:b.GH d=b.FP d:=by unfold Be.GH;simp only[c0,c1,Bool.true_eq_false,if_false,if_true]
   rw[hv];simp only[go_sem,Be.DB (b.FP d).2 k'];first | exact ⟨k',rfl,rfl⟩ | exact ⟨k',rfl⟩
 cases c2:decide (d.word=2);rotate_left
 · have hv:b.GH d=b.KE d.names:=by unfold Be.GH;simp only[c0,c1,c2,Bool.true_eq_false,Bool.false_eq_true,if_false,if_true]
   rw[hv];have e1:d.word=2:=of_decide_eq_true c2;rw[e1] at hs;simp[A4] at hs;simp only[go_sem,c0,c1,c2];refine Ao (fun q:Nat×Be×Nat=>⟨[(0,.ptr 1000000 0),(3,.ptr 3 0),(4,.p (.int .i64 0)),(5,.p (.int .i64 (q.1:Nat)))],(3,.box [.p (.int .i64 d.word),.p (.int .i64 d.line),.p (.sl (AV d.names)),.p (.sl (Ag d.AJ))])::q.2.1.h q.2.2,55⟩)
     (fun q=>1≤q.1∧q.1≤d.names.length∧BI q.2.1∧b.KE d.names=q.2.1.KE (d.names.drop (q.1 - 1))) (fun q=>d.names.length - q.1) (1,b,k) ⟨Nat.le_refl _,by omega,h,by simp⟩ (Wk.forget (by simp[Le,AG,Av,get,Aa,Ac,Ad,D.ids,Ai,AO.ids,Ae,base,Be.DB])) ?_
   rintro ⟨i,b',k'⟩ n ⟨HP,hi,hB,he⟩ ih;dsimp only at HP hi hB he;simp only[go_sem,Be.DB b' k',Aq];refine AK (fun h2=>?_) (fun h2=>?_)
   · have AL:i<d.names.length:=by simp at h2;omega
     have hw:=As i (by omega);have hp:IntKind.i64.wrap ((i:Int) - 1)=((i - 1:Nat):Int):=by rw[IntKind.wrap_i64];omega
     have g1:=BT d.names (i - 1) (by omega);have g2:=BT d.names i AL;have r1:(0:Int)≤((i - 1:Nat):Int)∧((i - 1:Nat):Int)<(d.names.length:Int):=by omega
     have r2:(0:Int)≤(i:Int)∧(i:Int)<(d.names.length:Int):=by omega
     have S1:d.names.drop (i - 1)=d.names.getD (i - 1) []::d.names.getD i []::d.names.drop (i+1):=by
       have a1:d.names.drop (i - 1)=d.names[i - 1]::d.names.drop (i - 1+1):=List.drop_eq_getElem_cons (by omega);have a2:d.names.drop i=d.names[i]::d.names.drop (i+1):=List.drop_eq_getElem_cons AL;rw[a1,show i - 1+1=i by omega,a2];simp[List.getD,AL,show i - 1<d.names.length by omega]
     have Axa:d.names.drop i=d.names.getD i []::d.names.drop (i+1):=by
       rw[List.drop_eq_getElem_cons AL];simp[List.getD,AL]
     rw[S1] at he;simp only[go_sem,Be.DB b' k',Aq];refine BB [(3,.box [.p (.int .i64 d.word),.p (.int .i64 d.line),.p (.sl (AV d.names)),.p (.sl (Ag d.AJ))])] mixed (p:=[(0,0),(1,0),(2,0),(3,0),(4,0),(5,0),(6,0),(7,0),(8,0),(9,0),(10,0),(11,0),(12,2),(13,0)]) (by kernel_rfl) (by simp[Av,get]) ?_;simp only[go_sem,Be.DB b' k',Aq,hp,r1,r2,Int.toNat_natCast,g1,g2];refine Bu (Am9 b' k' (d.names.getD (i - 1) []) (d.names.getD i []) (by rw[hB.nn];exact hB.mb) (fun i=>by have:=hB.row i;omega)) ?_;rintro h' r ⟨k2,rfl,rfl⟩;have hBl:=hB.lane (d.names.getD (i - 1) []) (d.names.getD i []);generalize hL:b'.EG (d.names.getD (i - 1) []) (d.names.getD i [])=L at*;obtain ⟨e,b2⟩:=L;simp only at hBl;simp only[Be.KE,hL] at he;cases c3:decide (e=0)
     · have c3':¬e=0:=of_decide_eq_false c3;rw[if_neg c3'] at he;rw[he];simp only[go_sem,Be.DB b2 k2,c3];first | exact ⟨k2,rfl,rfl⟩ | exact ⟨k2,rfl⟩
     · have c3':e=0:=of_decide_eq_true c3;rw[if_pos c3'] at he;simp only[go_sem,Be.DB b2 k2,c3,hw];refine ih (i+1,b2,k2) _ ⟨by omega,AL,hBl,?_⟩ (by simp;omega) ?_
       · simp only[Nat.add_sub_cancel];rw[Axa];exact he
       · (refine Wk.forget ?_;simp[Le,AG,Av,get,Aa,Ac,Ad,D.ids,Ai,AO.ids,Ae,base,Be.DB];done)
   · have:i=d.names.length:=by simp at h2;omega
     simp only[go_sem,Be.DB b' k'];have Hw:d.names.drop (i - 1)=[d.names.getD (i - 1) []]:=by
       rw[List.drop_eq_getElem_cons (by omega),List.drop_of_length_le (by omega)];simp[List.getD,show i - 1<d.names.length by omega]
     rw[Hw] at he;rw[he];first | exact ⟨k',rfl,rfl⟩ | exact ⟨k',rfl⟩
 cases c5:decide (d.word=5);rotate_left
 · have e1:d.word=5:=of_decide_eq_true c5;rw[e1] at hs;simp[A4] at hs;simp only[go_sem,c0,c1,c2,c5];refine Au (v5 (by omega) (by omega)) ?_;rintro h' r ⟨k',rfl,rfl⟩;have hv:b.GH d=b.CX d:=by unfold Be.GH;simp only[c0,c1,c2,c5,Bool.true_eq_false,Bool.false_eq_true,if_false,if_true]
   rw[hv];simp only[go_sem,Be.DB (b.CX d).2 k'];first | exact ⟨k',rfl,rfl⟩ | exact ⟨k',rfl⟩
 cases c6:decide (d.word=6);rotate_left
 · have e1:d.word=6:=of_decide_eq_true c6;rw[e1] at hs;simp[A4] at hs;simp only[go_sem,c0,c1,c2,c5,c6];refine Au (v6 (by omega)) ?_;rintro h' r ⟨k',rfl,rfl⟩;have hv:b.GH d=b.DX d:=by unfold Be.GH;simp only[c0,c1,c2,c5,c6,Bool.true_eq_false,Bool.false_eq_true,if_false,if_true]
   rw[hv];simp only[go_sem,Be.DB (b.DX d).2 k'];first | exact ⟨k',rfl,rfl⟩ | exact ⟨k',rfl⟩
 · have n1:¬d.word=1:=of_decide_eq_false c1;have n2:¬d.word=2:=of_decide_eq_false c2;have n5:¬d.word=5:=of_decide_eq_false c5;have n6:¬d.word=6:=of_decide_eq_false c6;have e1:d.word=3∨d.word=4:=by omega
   simp only[A4,n1,n2,e1,if_false,if_true] at hs;simp only[go_sem,c0,c1,c2,c5,c6];refine Au (v3 (by omega) (by omega)) ?_;rintro h' r ⟨k',rfl,rfl⟩;have hv:b.GH d=b.D8 d:=by unfold Be.GH;simp only[c0,c1,c2,c5,c6,Bool.true_eq_false,Bool.false_eq_true,if_false,if_true]
   rw[hv];simp only[go_sem,Be.DB (b.D8 d).2 k'];first | exact ⟨k',rfl,rfl⟩ | exact ⟨k',rfl⟩
def parseV:List Ln→List Dc→List Dc×Int×Int
 | [],acc=>(acc,0,0)
 | x::r,acc=>if (Q4 x.num x.fs).2=0 then parseV r (acc++[(Q4 x.num x.fs).1]) else ([],x.num,(Q4 x.num x.fs).2)
def YW (r:List Dc×Int×Int):D:= .BA [.p (.sl (BO r.1)),.p (.int .i64 r.2.1),.p (.int .i64 r.2.2)]
theorem Aaw (l:List Ln) (hl:l.length≤10000000) (hf:∀x∈l,x.fs.length≤10000000):Aj Tryz.prog 30 [.p (.sl (CN l))] [] fun h r=>h=[]∧r=YW (parseV l []):=by
 refine Ak Tryz.func30 rfl Aja (by simp[Tryz.f30]) ?_;simp only[go_sem,A5];refine Ao (fun q:Nat×List Dc=>⟨[(10,.p (.sl (CN l))),(11,.p (.int .i64 (l.length:Nat))),(12,.p (.int .i64 (q.1:Nat))),(5,.ref 29 0 q.2.length q.2.length)],[(29,.arr 82 4 (BO q.2))],32⟩)
   (fun q=>q.1≤l.length∧q.2.length≤q.1∧parseV (l.drop q.1) q.2=parseV l []) (fun q=>l.length - q.1) (0,[]) ⟨Nat.zero_le _,by simp,by simp⟩ ((Wk.nil (t:=5) (q:=29) (sz:=4) 82 rfl rfl (by decide)).trans (Wk.forget (by simp[Le,AG,Av,get,Aa,Ac,Ad,D.ids,Ai,AO.ids,Ae,base,BO]))) ?_
 rintro ⟨i,acc⟩ n ⟨hi,hn,he⟩ ih;simp only at hi hn he;simp only[go_sem];refine AK (fun h2=>?_) (fun h2=>?_)
 · have AL:i<l.length:=by simp at h2;omega
   have hw:=As i (by omega);have hb:=hf _ (A7 l i TE AL);rw[Bn l i TE AL] at he;simp only[go_sem,Int.toNat_natCast,A5,IT l i AL];generalize l.getD i TE=x at*;refine ⟨by omega,Au (Ag9 x.num x.fs hb) ?_⟩;rintro h' r ⟨rfl,rfl⟩;by_cases hz:(Q4 x.num x.fs).2=0
   · simp only[go_sem,Dc.d,hz,hw,A8];refine ⟨⟨Cf _ _ rfl,by omega⟩,?_⟩;refine ih (i+1,acc++[(Q4 x.num x.fs).1]) _ ⟨AL,by simp only[List.length_append,List.length_cons,List.length_nil];omega,by rw[←he];simp only[parseV,hz,if_true]⟩ (by simp only;omega) ?_
     (refine Wk.forget ?_;simp[Le,AG,Av,get,Aa,Ac,Ad,D.ids,Ai,AO.ids,Ae,base,DW,A8];done)
   · simp only[go_sem,Dc.d,hz];refine AY mixed (p:=[(0,0),(1,0),(2,0),(3,0),(4,0),(5,0)]) (by kernel_rfl) (by simp[Av,get]) ?_;simp only[go_sem];refine Ah ?_;simp only[go_sem];rw[←he];simp[parseV,hz,YW,BO]
 · simp only[go_sem];have Zv:i=l.length:=by simp at h2;omega
   subst Zv;refine Ah ?_;simp only[go_sem];rw[List.drop_length] at he;rw[←he];simp[parseV,YW,A8,Ady]
end Go.Am
end
