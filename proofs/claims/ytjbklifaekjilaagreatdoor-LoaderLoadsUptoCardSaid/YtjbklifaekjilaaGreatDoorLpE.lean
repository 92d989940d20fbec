/- Texts of this proof, what it rests on, merged: part E. -/
import Derived.Test.YtjbklifaekjilaaGreatDoorProg
import Derived.KernelRfl
import Derived.Test.YtjbklifaekjilaaGreatDoorLpD
noncomputable section
namespace Go.Am
open Go Go.Proofs
open Tryz
set_option maxRecDepth 100000
set_option linter.unusedVariables false
set_option linter.unusedSimpArgs false
set_option maxHeartbeats 2000000
theorem ti2:CJ prog 2=some ⟨1,8,.int .i64,.p (.int .i64 0)⟩:=by kernel_rfl
theorem ti3:CJ prog 3=some ⟨1,8,.int .i64,.p (.int .i64 0)⟩:=by kernel_rfl
theorem ti4:CJ prog 4=some ⟨1,1,.bool,.p (.bool false)⟩:=by kernel_rfl
theorem ti5:CJ prog 5=some ⟨1,1,.int .u8,.p (.int .u8 0)⟩:=by kernel_rfl
theorem ti9:CJ prog 9=some ⟨1,16,.string,.p (.str [])⟩:=by kernel_rfl
theorem Aep:CJ prog 22=some ⟨1,24,.slice 3,.cl []⟩:=by kernel_rfl
theorem Bal:CJ prog 23=some ⟨4,32,.array 4 3,.agg [.p (.int .i64 0),.p (.int .i64 0),.p (.int .i64 0),.p (.int .i64 0)]⟩:=by kernel_rfl
theorem Bak:CJ prog 26=some ⟨1,24,.slice 9,.cl []⟩:=by kernel_rfl
theorem Baj:CJ prog 27=some ⟨1,24,.slice 76,.cl []⟩:=by kernel_rfl
theorem Aeo:CJ prog 28=some ⟨1,24,.slice 22,.cl []⟩:=by kernel_rfl
theorem Bai:CJ prog 29=some ⟨1,24,.slice 68,.cl []⟩:=by kernel_rfl
theorem Bah:CJ prog 31=some ⟨4,32,.struct [(0,3),(1,3),(2,3),(3,3)],.agg [.p (.int .i64 0),.p (.int .i64 0),.p (.int .i64 0),.p (.int .i64 0)]⟩:=by kernel_rfl
theorem Bco:Xa prog 31=some [.int,.int,.int,.int]:=by kernel_rfl
theorem Bag:CJ prog 33=some ⟨8,128,.struct [(0,27),(1,28),(2,29),(3,22),(4,31)],.agg [.cl [],.cl [],.cl [],.cl [],.p (.int .i64 0),.p (.int .i64 0),.p (.int .i64 0),.p (.int .i64 0)]⟩:=by kernel_rfl
theorem Baf:CJ prog 35=some ⟨4,48,.struct [(0,3),(1,22),(2,3),(3,3)],.agg [.p (.int .i64 0),.cl [],.p (.int .i64 0),.p (.int .i64 0)]⟩:=by kernel_rfl
theorem Bae:CJ prog 42=some ⟨1,24,.slice 80,.cl []⟩:=by kernel_rfl
theorem Bad:CJ prog 45=some ⟨1,24,.slice 82,.cl []⟩:=by kernel_rfl
theorem Bac:CJ prog 52=some ⟨1,24,.slice 4,.cl []⟩:=by kernel_rfl
theorem Bab:CJ prog 60=some ⟨2,32,.struct [(0,22),(1,3)],.agg [.cl [],.p (.int .i64 0)]⟩:=by kernel_rfl
theorem Baa:CJ prog 68=some ⟨6,56,.struct [(0,9),(1,4),(2,3),(3,3),(4,3),(5,3)],.agg [.p (.str []),.p (.bool false),.p (.int .i64 0),.p (.int .i64 0),.p (.int .i64 0),.p (.int .i64 0)]⟩:=by kernel_rfl
theorem Bcn:Xa prog 68=some [.str,.bool,.int,.int,.int,.int]:=by kernel_rfl
theorem Aam:CJ prog 72=some ⟨1,24,.slice 5,.cl []⟩:=by kernel_rfl
theorem Ba9:CJ prog 76=some ⟨3,32,.struct [(0,9),(1,3),(2,3)],.agg [.p (.str []),.p (.int .i64 0),.p (.int .i64 0)]⟩:=by kernel_rfl
theorem Bcm:Xa prog 76=some [.str,.int,.int]:=by kernel_rfl
theorem Ba8:CJ prog 80=some ⟨2,32,.struct [(0,3),(1,26)],.agg [.p (.int .i64 0),.cl []]⟩:=by kernel_rfl
theorem Ba7:CJ prog 82=some ⟨4,64,.struct [(0,3),(1,3),(2,26),(3,22)],.agg [.p (.int .i64 0),.p (.int .i64 0),.cl [],.cl []]⟩:=by kernel_rfl
theorem Ba6:CJ prog 87=some ⟨9,136,.struct [(0,33),(8,4)],.agg [.cl [],.cl [],.cl [],.cl [],.p (.int .i64 0),.p (.int .i64 0),.p (.int .i64 0),.p (.int .i64 0),.p (.bool false)]⟩:=by kernel_rfl
theorem Ba5:CJ prog 95=some ⟨1,8,.other,.bad⟩:=by kernel_rfl
theorem Ba4:CJ prog 98=some ⟨1,8,.other,.bad⟩:=by kernel_rfl
theorem Ax4:CJ prog 115=some ⟨1,24,.slice 120,.cl []⟩:=by kernel_rfl
theorem Ax3:CJ prog 117=some ⟨14,208,.struct [(0,33),(8,95),(9,95),(10,22),(11,3),(12,115),(13,4)],.agg [.cl [],.cl [],.cl [],.cl [],.p (.int .i64 0),.p (.int .i64 0),.p (.int .i64 0),.p (.int .i64 0),.bad,.bad,.cl [],.p (.int .i64 0),.cl [],.p (.bool false)]⟩:=by kernel_rfl
theorem Ax2:CJ prog 120=some ⟨2,16,.array 2 3,.agg [.p (.int .i64 0),.p (.int .i64 0)]⟩:=by kernel_rfl
theorem Az2:Xa prog 120=some [.int,.int]:=by kernel_rfl
theorem Ata:CJ prog 137=some ⟨3,40,.struct [(0,9),(1,9),(2,4)],.agg [.p (.str []),.p (.str []),.p (.bool false)]⟩:=by kernel_rfl
theorem At9:CJ prog 138=some ⟨21,280,.array 7 137,.agg [.p (.str []),.p (.str []),.p (.bool false),.p (.str []),.p (.str []),.p (.bool false),.p (.str []),.p (.str []),.p (.bool false),.p (.str []),.p (.str []),.p (.bool false),.p (.str []),.p (.str []),.p (.bool false),.p (.str []),.p (.str []),.p (.bool false),.p (.str []),.p (.str []),.p (.bool false)]⟩:=by kernel_rfl
theorem Ax1:CJ prog 155=some ⟨1,24,.slice 137,.cl []⟩:=by kernel_rfl
theorem Ax0:CJ prog 160=some ⟨1,8,.int .u64,.p (.int .u64 0)⟩:=by kernel_rfl
theorem Awz:CJ prog 163=some ⟨9,200,.struct [(0,28),(1,52),(2,22),(3,22),(4,22),(5,22),(6,22),(7,3),(8,22)],.agg [.cl [],.cl [],.cl [],.cl [],.cl [],.cl [],.cl [],.p (.int .i64 0),.cl []]⟩:=by kernel_rfl
theorem Awy:CJ prog 192=some ⟨1,8,.int .u64,.p (.int .u64 0)⟩:=by kernel_rfl
theorem Ax9:mapOf prog 95=some (.str,.int .i64 0):=by kernel_rfl
theorem Alg:mapOf prog 98=some (.int .i64,.bool false):=by kernel_rfl
theorem Ae3:Enters prog 3:=call3
theorem As8:Enters prog 8:=call8
theorem As7:Enters prog 9:=call9
theorem Aop:Enters prog 10:=call10
theorem Aoo:Enters prog 11:=call11
theorem Aon:Enters prog 12:=call12
theorem Aom:Enters prog 13:=call13
theorem Aol:Enters prog 14:=call14
theorem Aok:Enters prog 15:=call15
theorem Aoj:Enters prog 16:=call16
theorem Aoi:Enters prog 18:=call18
theorem Aoh:Enters prog 19:=call19
theorem Aog:Enters prog 20:=call20
theorem p8:Enters prog 21:=call21
theorem Aof:Enters prog 23:=call23
theorem Aoe:Enters prog 24:=call24
theorem Aod:Enters prog 25:=call25
theorem Aoc:Enters prog 26:=call26
theorem Aob:Enters prog 27:=call27
theorem p7:Enters prog 28:=call28
theorem Aoa:Enters prog 29:=call29
theorem Ao9:Enters prog 30:=call30
theorem Ao8:Enters prog 31:=call31
theorem Ao7:Enters prog 32:=call32
theorem Ao6:Enters prog 33:=call33
theorem Ao5:Enters prog 34:=call34
theorem Ao4:Enters prog 35:=call35
theorem Ao3:Enters prog 36:=call36
theorem Ao2:Enters prog 37:=call37
theorem p6:Enters prog 40:=call40
theorem p5:Enters prog 41:=call41
theorem Ao1:Enters prog 42:=call42
theorem Ao0:Enters prog 43:=call43
theorem Anz:Enters prog 44:=call44
theorem UY:Enters prog 45:=call45
theorem Anx:Enters prog 46:=call46
theorem p4:Enters prog 47:=call47
theorem Anw:Enters prog 48:=call48
theorem Anv:Enters prog 49:=call49
theorem p3:Enters prog 53:=call53
theorem Anu:Enters prog 54:=call54
theorem Ant:Enters prog 55:=call55
theorem o9:Enters prog 56:=call56
theorem Ans:Enters prog 57:=call57
theorem Anr:Enters prog 58:=call58
theorem Anq:Enters prog 59:=call59
theorem Anp:Enters prog 60:=call60
theorem Ano:Enters prog 61:=call61
theorem Ann:Enters prog 62:=call62
theorem Anm:Enters prog 63:=call63
theorem Anl:Enters prog 64:=call64
theorem Ank:Enters prog 65:=call65
theorem Anj:Enters prog 66:=call66
theorem o8:Enters prog 67:=call67
theorem o7:Enters prog 68:=call68
theorem Ani:Enters prog 69:=call69
theorem Anh:Enters prog 70:=call70
theorem Ang:Enters prog 71:=call71
theorem o6:Enters prog 72:=call72
theorem Anf:Enters prog 73:=call73
theorem Ane:Enters prog 74:=call74
theorem o5:Enters prog 75:=call75
theorem Anc:Enters prog 76:=call76
theorem Anb:Enters prog 77:=call77
theorem Ana:Enters prog 78:=call78
theorem An9:Enters prog 79:=call79
theorem An8:Enters prog 80:=call80
theorem An7:Enters prog 82:=call82
theorem An6:Enters prog 83:=call83
theorem An5:Enters prog 84:=call84
theorem o4:Enters prog 85:=call85
theorem n9:Enters prog 86:=call86
theorem An4:Enters prog 87:=call87
theorem An3:Enters prog 89:=call89
theorem An2:Enters prog 91:=call91
theorem An1:Enters prog 92:=call92
theorem An0:Enters prog 99:=call99
theorem Ai6:Enters prog 100:=call100
theorem Ai5:Enters prog 101:=call101
theorem Xj:Enters prog 102:=call102
theorem Ai4:Enters prog 103:=call103
theorem Ai3:Enters prog 104:=call104
theorem Ai2:Enters prog 105:=call105
theorem Ai1:Enters prog 106:=call106
theorem Ai0:Enters prog 107:=call107
theorem Ahz:Enters prog 108:=call108
theorem Ahy:Enters prog 109:=call109
theorem Ahx:Enters prog 110:=call110
theorem Ahw:Enters prog 111:=call111
theorem Ahv:Enters prog 112:=call112
theorem Ahu:Enters prog 113:=call113
theorem Aht:Enters prog 114:=call114
theorem Ahs:Enters prog 115:=call115
theorem Ahr:Enters prog 116:=call116
theorem Ahq:Enters prog 117:=call117
theorem Ahp:Enters prog 118:=call118
theorem Xi:Enters prog 119:=call119
theorem Aho:Enters prog 120:=call120
theorem Ahn:Enters prog 121:=call121
theorem Ahm:Enters prog 122:=call122
theorem Ahl:Enters prog 123:=call123
theorem Xh:Enters prog 124:=call124
theorem Ahk:Enters prog 125:=call125
theorem Ahj:Enters prog 126:=call126
theorem Ahi:Enters prog 127:=call127
theorem Ahh:Enters prog 128:=call128
theorem Ahg:Enters prog 133:=call133
theorem Ahf:Enters prog 138:=call138
theorem Ahe:Enters prog 139:=call139
theorem Ahd:Enters prog 140:=call140
theorem Ahc:Enters prog 141:=call141
theorem Ahb:Enters prog 142:=call142
theorem Aha:Enters prog 143:=call143
theorem Ah9:Enters prog 144:=call144
theorem Ah8:Enters prog 150:=call150
theorem Ah7:Enters prog 154:=call154
theorem Ah6:Enters prog 155:=call155
theorem Xg:Enters prog 156:=call156
theorem Ah5:Enters prog 157:=call157
theorem Ah4:Enters prog 158:=call158
theorem Ah3:Enters prog 163:=call163
theorem Ah2:Enters prog 164:=call164
theorem Ah1:Enters prog 169:=call169
theorem Ah0:Enters prog 170:=call170
theorem Xf:Enters prog 171:=call171
theorem Agz:Enters prog 172:=call172
theorem Agy:Enters prog 178:=call178
theorem Agx:Enters prog 179:=call179
theorem Agw:Enters prog 186:=call186
theorem mixed:prog.follows .mixedOrders=true:=by kernel_rfl
attribute [go_sem] ti2 ti3 ti4 ti5 ti9 Aep Bal Bak
attribute [go_sem] Baj Aeo Bai Bah Bco Bag Baf
attribute [go_sem] Bae Bad Bac Bab Baa Bcn Aam
attribute [go_sem] Ba9 Bcm Ba8 Ba7 Ba6
attribute [go_sem] Ba5 Ba4 Ax4 Ax3 Ax2 Az2 Ata
attribute [go_sem] At9 Ax1 Ax0 Awz
attribute [go_sem] Awy
attribute [go_sem] Ax9 Alg ntmps3 results3
attribute [go_sem] ntmps8 results8 ntmps9 results9 ntmps10 results10 ntmps11
attribute [go_sem] results11 ntmps12 results12 ntmps13 results13 ntmps14 results14 ntmps15 results15 ntmps16 results16
attribute [go_sem] ntmps18 results18 ntmps19 results19 ntmps20 results20 ntmps21 results21 ntmps23
attribute [go_sem] results23 ntmps24 results24 ntmps25 results25 ntmps26 results26 ntmps27 results27 ntmps28 results28 ntmps29
attribute [go_sem] results29 ntmps30 results30 ntmps31 results31 ntmps32 results32 ntmps33 results33 ntmps34 results34 ntmps35
attribute [go_sem] results35 ntmps36 results36 ntmps37 results37 ntmps40 results40 ntmps41
attribute [go_sem] results41 ntmps42 results42 ntmps43 results43 ntmps44 results44 ntmps45 results45 ntmps46 results46 ntmps47
attribute [go_sem] results47 ntmps48 results48 ntmps49 results49 ntmps53
attribute [go_sem] results53 ntmps54 results54 ntmps55 results55 ntmps56 results56 ntmps57 results57 ntmps58 results58 ntmps59
attribute [go_sem] results59 ntmps60 results60 ntmps61 results61 ntmps62 results62 ntmps63 results63 ntmps64 results64 ntmps65
attribute [go_sem] results65 ntmps66 results66 ntmps67 results67 ntmps68 results68 ntmps69 results69 ntmps70 results70 ntmps71
attribute [go_sem] results71 ntmps72 results72 ntmps73 results73 ntmps74 results74 ntmps75 results75 ntmps76 results76 ntmps77
attribute [go_sem] results77 ntmps78 results78 ntmps79 results79 ntmps80 results80 ntmps82 results82 ntmps83
attribute [go_sem] results83 ntmps84 results84 ntmps85 results85 ntmps86 results86 ntmps87 results87 ntmps89
attribute [go_sem] results89 ntmps91 results91 ntmps92 results92
attribute [go_sem] ntmps99 results99 ntmps100 results100 ntmps101
attribute [go_sem] results101 ntmps102 results102 ntmps103 results103 ntmps104 results104 ntmps105 results105 ntmps106 results106 ntmps107
attribute [go_sem] results107 ntmps108 results108 ntmps109 results109 ntmps110 results110 ntmps111 results111 ntmps112 results112 ntmps113
attribute [go_sem] results113 ntmps114 results114 ntmps115 results115 ntmps116 results116 ntmps117 results117 ntmps118 results118 ntmps119
attribute [go_sem] results119 ntmps120 results120 ntmps121 results121 ntmps122 results122 ntmps123 results123 ntmps124 results124 ntmps125
attribute [go_sem] results125 ntmps126 results126 ntmps127 results127 ntmps128 results128
attribute [go_sem] ntmps133 results133
attribute [go_sem] ntmps138 results138 ntmps139 results139 ntmps140 results140 ntmps141 results141 ntmps142 results142 ntmps143
attribute [go_sem] results143 ntmps144 results144
attribute [go_sem] ntmps150 results150 ntmps154 results154 ntmps155
attribute [go_sem] results155 ntmps156 results156 ntmps157 results157 ntmps158 results158
attribute [go_sem] ntmps163 results163 ntmps164 results164 ntmps169
attribute [go_sem] results169 ntmps170 results170 ntmps171 results171 ntmps172 results172
attribute [go_sem] ntmps178 results178 ntmps179 results179
attribute [go_sem] ntmps186 results186
attribute [go_sem ↓] reduceIte
attribute [go_sem] Nat.reduceLT Nat.reduceLeDiff Nat.reduceEqDiff Nat.reduceAdd Nat.reduceMul Nat.reduceSub reduceCtorEq Int.reduceLT Int.reduceLE Int.reduceEq Int.reduceToNat decide_true decide_false Int.reduceNeg Int.cast_ofNat_Int sg AO.sg Option.isNone_none
def BZ(l:List Int):List (List Pd):=l.map λ n=>[.int .i64 n]
def CB(l:List (List UInt8)):List (List Pd):=l.map λ s=>[.str s]
theorem BY(l:List Int):(BZ l).length=l.length:=by simp[BZ]
theorem Cm(l:List Int)(i:Nat)(h:i<l.length):(BZ l).getD i []=[.int .i64 (l.getD i 0)]:=by simp[BZ,List.getD,h]
theorem B5(l:List (List UInt8)):(CB l).length=l.length:=by simp[CB]
theorem DH(l:List (List UInt8))(i:Nat)(h:i<l.length):(CB l).getD i []=[.str (l.getD i [])]:=by simp[CB,List.getD,h]
theorem D0(l:List Int)(x:Int):BZ (l++[x])=BZ l++[[.int .i64 x]]:=by simp[BZ]
theorem DG(l:List (List UInt8))(x:List UInt8):CB (l++[x])=CB l++[[.str x]]:=by simp[CB]
theorem GD(l:List Int)(n:Nat)(h:l.length<=n):(BZ l).take n=BZ l:=List.take_of_length_le (by simpa [BZ] using h)
theorem FX(l:List (List UInt8))(n:Nat)(h:l.length<=n):(CB l).take n=CB l:=List.take_of_length_le (by simpa [CB] using h)
theorem Dy(n:Nat)(x:List Pd)(h:x.length=n):Ka n [x]:=by simp[Ka,h]
theorem QQ(l:List (List UInt8))(i:Nat)(x:List UInt8):CB (l.set i x)=(CB l).set i [.str x]:=by simp[CB,Br]
theorem Dj(l:List Int)(i:Nat)(x:Int):BZ (l.set i x)=(BZ l).set i [.int .i64 x]:=by simp[BZ,Br]
theorem CF{α:Type}(l:List α)(i:Nat)(x:α)(h:i<l.length):l.getD i x∈l:=by simp only[List.getD,Az h,A5];exact AN h
theorem Df{α:Type}(l:List α)(i:Nat)(x:α)(h:i<l.length):l.drop i=l.getD i x::l.drop (i+1):=by rw[AT h];simp[List.getD,h]
def Aq4(x:Int):Prop:=-9223372036854775808<=x/\x<=9223372036854775807
theorem Cd(i:Nat)(h:i<9223372036854775807):IntKind.i64.wrap ((i:Int)+1)=((i+1:Nat):Int):=by rw[B3]<;>omega
def cut(v n:Int):Int:=if n<=1 then 0 else if v.tmod n<0 then v.tmod n+n else v.tmod n
theorem Avt(v n:Int):0<=cut v n/\(cut v n<n∨cut v n=0):=by
 unfold cut;split
 . omega
 . have h1:=Int.tmod_lt_of_pos v (show 0<n by omega);have h2:=Int.lt_tmod_of_pos v (show 0<n by omega);split<;>omega
theorem Ap4(v n:Int)(hn:Aq4 n):B2 prog 28 [.p (.int .i64 v),.p (.int .i64 n)] [] λ h r=>h=[]/\r= .p (.int .i64 (cut v n)):=by
 unfold Aq4 at hn;refine B1 func28 rfl p7 (by simp[Tryz.f28]) ?_;simp only[go_sem];refine Cy (λ h1=>?_) (λ h1=>?_)
 . simp only[go_sem];simp at h1;simp[cut,h1]
 . simp only[go_sem];simp at h1;refine ⟨by omega,?_⟩;refine Cy (λ h2=>?_) (λ h2=>?_)
   . simp at h2;have h3:IntKind.i64.wrap (v.tmod n+n)=v.tmod n+n:=by
       have h4:=Int.tmod_lt_of_pos v (show 0<n by omega);have h5:=Int.lt_tmod_of_pos v (show 0<n by omega);rw[B3]<;>omega
     simp only[go_sem,h3];simp only[cut,h2,AP,true_and];rw[if_neg (by omega)]
   . simp only[go_sem];simp at h2;simp only[cut,true_and];rw[if_neg (by omega),if_neg (by omega)]
def M7(l:List Int)(at_:Nat)(n:Int):Int:=cut (if at_<l.length then l.getD at_ 0 else ((at_:Int)*7).tmod 11) n
theorem Alb(l:List Int)(at_:Nat)(n:Int):0<=M7 l at_ n/\(M7 l at_ n<n∨M7 l at_ n=0):=Avt _ _
theorem CZ(l:List Int)(at_:Nat)(n:Int)(hn:0<n):∃k:Nat,M7 l at_ n=(k:Int)/\(k:Int)<n:=by
 have h:=Alb l at_ n;exact ⟨(M7 l at_ n).toNat,by omega,by omega⟩
theorem CL(n:Int)(h0:0<=n)(h1:n<=1000000):Aq4 n:=by unfold Aq4;omega
theorem Lp(l:List UInt8):(EH l).length=l.length:=by simp[EH]
theorem r7(l:List UInt8)(i:Nat)(h:i<l.length):(EH l).getD i []=[.int .u8 (l.getD i 0).toNat]:=by simp[EH,List.getD,h]
def Dm(l:List Int)(at_:Nat):List D:=[.p (.sl (BZ l)),.p (.int .i64 (at_:Nat))]
theorem ZF:(∀st st1:St,Le st st1=(st1.n=st.n/\Q8 st.env st1.env/\C8 st.hp st1.hp/\((DO st1.env++Ey st1.hp).all λ id=>(get st1.hp id).isSome)=true/\Fa st1.hp st.hp))/\
   (∀e:List (Nat×D),Q8 e []=True)/\(∀(e:List (Nat×D)) (t:Nat) (d:D) (r:List (Nat×D)),Q8 e ((t,d)::r)=(get e t=some d/\Q8 e r))/\
   (∀h:Hp,C8 h []=True)/\(∀(h:Hp) (id:Nat) (o:AO) (r:Hp),C8 h ((id,o)::r)=(get h id=some o/\C8 h r))/\
   (∀(α:Type) (k:Nat),get ([]:List (Nat×α)) k=none)/\(∀(α:Type) (k':Nat) (x:α) (r:List (Nat×α)) (k:Nat),get ((k',x)::r) k=if k'=k then some x else get r k)/\
   DO []=[]/\(∀(t:Nat) (d:D) (r:List (Nat×D)),DO ((t,d)::r)=d.ids++DO r)/\Ey []=[]/\(∀(id:Nat) (o:AO) (r:Hp),Ey ((id,o)::r)=o.ids++Ey r)/\
   (∀h:Hp,Fa h []=True)/\(∀(h:Hp) (id:Nat) (o:AO) (r:Hp),Fa h ((id,o)::r)=((base<=id->get h id=some o)/\Fa h r))/\
   (∀x,D.ids (.p x)=[])/\(∀cs,D.ids (.agg cs)=DB cs)/\(∀cs,D.ids (.Dv cs)=DB cs)/\(∀es,D.ids (.cl es)=[])/\(∀es,D.ids (.cz es)=[])/\(∀i a b c,D.ids (.ref i a b c)=[i])/\(∀i a,D.ids (.ptr i a)=[i])/\(∀cs,D.ids (.pe cs)=[])/\
   (∀i a b c,D.ids (.ea i a b c)=[i])/\(∀f cs,D.ids (.fn f cs)=DB cs)/\D.ids .np=[]/\(∀i,D.ids (.mv i)=[i])/\(∀i a,D.ids (.DI i a)=[i])/\(∀i a b,D.ids (.M9 i a b)=[i])/\(∀i a b c,D.ids (.nr i a b c)=[i])/\D.ids .SW=[]/\
   DB []=[]/\(∀d r,DB (d::r)=D.ids d++DB r)/\(∀cs t,AO.ids (.box cs t)=DB cs)/\(∀t sz es,AO.ids (.arr t sz es)=[])/\(∀sz es,AO.ids (.Nw sz es)=[])/\(∀l q,AO.ids (.iter l q)=[])/\(∀g cs,AO.ids (.Gi g cs)=[])/\(∀x,AO.ids (.Fv x)=[])/\(∀l,AO.ids (.mp l)=[])/\(∀t e sz k rows hole,AO.ids (.DF t e sz k rows hole)=[])/\
   (∀(α:Type) (k:Nat) (x:α),Cz [] k x=[(k,x)])/\(∀(α:Type) (k':Nat) (x':α) (r:List (Nat×α)) (k:Nat) (x:α),Cz ((k',x')::r) k x=if k'=k then (k,x)::r else (k',x')::Cz r k x)/\base=1000000:=by
 refine ⟨?_,?_,?_,?_,?_,?_,?_,?_,?_,?_,?_,?_,?_,?_,?_,?_,?_,?_,?_,?_,?_,?_,?_,?_,?_,?_,?_,?_,?_,?_,?_,?_,?_,?_,?_,?_,?_,?_,?_,?_,?_,?_⟩<;>intros<;>first | rfl | simp only[D.ids,DB,AO.ids]
theorem Cq{P:Program}{s:Bool}{ops rest:List Oper}{k:Kt}{dst:Option Nat}{st:St}{h:Hp}{T:List Nat}{f:FuncId}{ds:List D}{hs:Hp}{S:Prop}{h1:Hp}{d:D}(hc:B2 P f ds hs λ h' r=>h'=h1/\r=d)
   (hk:fresh (dst.getD 0) h h1/\O P s ops rest k (({st with hp:=merge T (dst.getD 0) h h1}:St).put dst (d.Ek (back T (dst.getD 0))))):Cc P s ops rest k dst st h T f ds hs S:=Em hc (by rintro _ _ ⟨rfl,rfl⟩;exact hk)
theorem Gq{P:Program}{l:List Oper}{hR:Hp}{r:List (Nat×Nat)}{k:Kt}{kd:Nat}{dst:Option Nat}{st:St}{h:Hp}{T:List Nat}{f:FuncId}{ds:List D}{hs:Hp}{S:Prop}{h1:Hp}{d:D}(hc:B2 P f ds hs λ h' x=>h'=h1/\x=d)
   (hk:fresh (dst.getD 0) h h1/\Hd kd (merge T (dst.getD 0) h h1) hR/\G P l hR r k (({st with hp:=merge T (dst.getD 0) h h1}:St).put dst (d.Ek (back T (dst.getD 0))))):Gh P l hR r k kd dst st h T f ds hs S:=Aq7 hc (by rintro _ _ ⟨rfl,rfl⟩;exact hk)
theorem Dd(l:List Int)(at_:Nat)(n:Int)(Jr:at_<1000000000000)(hn:Aq4 n):
   B2 prog 44 [.ptr 1000000 0,.p (.int .i64 n)] [(1000000,.box (Dm l at_))] λ h r=>h=[(1000000,.box (Dm l (at_+1)))]/\r= .p (.int .i64 (M7 l at_ n)):=by
 refine B1 func44 rfl Anz (by simp[Tryz.f44]) ?_;have h7:IntKind.i64.wrap ((at_:Int)*7)=(at_:Int)*7:=by rw[B3]<;>omega
 have h8:IntKind.i64.wrap ((at_:Int)+1)=((at_+1:Nat):Int):=by rw[B3]<;>omega
 unfold Dm;simp only[go_sem,h7];refine Dp [(1000000,.box [.p (.sl (BZ l)),.p (.int .i64 (at_:Nat))])] mixed (p:=[(0,0),(1,0),(2,0),(3,0),(4,0),(5,0),(6,0),(7,0),(8,0),(9,0)]) (by kernel_rfl) (by simp[C8,get]) ?_;simp only[go_sem,h7,BY];refine Cy (λ h1=>?_) (λ h1=>?_)
 . have Cv:at_<l.length:=by simp at h1;omega
   refine Dp [(1000000,.box [.p (.sl (BZ l)),.p (.int .i64 (at_:Nat))])] mixed (p:=[(0,0),(1,0),(2,0),(3,0),(4,0),(5,0),(6,0),(7,0),(8,0),(9,0),(10,0)]) (by kernel_rfl) (by simp[C8,get]) ?_;simp only[go_sem,h8,BY,Ab,Cm l at_ Cv];refine ⟨by omega,Em (Ap4 _ _ hn) ?_⟩;rintro h' r ⟨rfl,rfl⟩;simp only[go_sem,h8];simp[M7,Cv]
 . simp only[go_sem,h8];refine Cq (Ap4 _ _ hn) ?_;simp only[go_sem,h8];have:¬at_<l.length:=by simp at h1;omega
   simp[M7,this]
structure Dc where
 word:Int
 line:Int
 names:List (List UInt8)
 Cb:List Int
 deriving DecidableEq
def IU:Dc:=⟨0,0,[],[]⟩
def Dc.d(x:Dc):D:= .agg [.p (.int .i64 x.word),.p (.int .i64 x.line),.p (.sl (CB x.names)),.p (.sl (BZ x.Cb))]
structure Ln where
 num:Int
 fs:List (List UInt8)
 deriving DecidableEq
def ZT:Ln:=⟨0,[]⟩
def EG(l:List Ln):List (List Pd):=l.map λ x=>[.int .i64 x.num,.sl (CB x.fs)]
theorem CQ(l:List Ln):(EG l).length=l.length:=by simp[EG]
theorem NC(l:List Ln)(i:Nat)(h:i<l.length):(EG l).getD i []=[.int .i64 (l.getD i ZT).num,.sl (CB (l.getD i ZT).fs)]:=by simp[EG,List.getD,h]
theorem Jt(l:List Ln)(x:Ln):EG (l++[x])=EG l++[[.int .i64 x.num,.sl (CB x.fs)]]:=by simp[EG]
theorem RW(l:List Ln)(n:Nat)(h:l.length<=n):(EG l).take n=EG l:=List.take_of_length_le (by simpa [EG] using h)
def DX(l:List Dc):List (List Pd):=l.map λ x=>[.int .i64 x.word,.int .i64 x.line,.sl (CB x.names),.sl (BZ x.Cb)]
theorem CS(l:List Dc):(DX l).length=l.length:=by simp[DX]
theorem r6(l:List Dc)(i:Nat)(h:i<l.length):(DX l).getD i []=[.int .i64 (l.getD i IU).word,.int .i64 (l.getD i IU).line,.sl (CB (l.getD i IU).names),.sl (BZ (l.getD i IU).Cb)]:=by simp[DX,List.getD,h]
theorem FY(l:List Dc)(x:Dc):DX (l++[x])=DX l++[[.int .i64 x.word,.int .i64 x.line,.sl (CB x.names),.sl (BZ x.Cb)]]:=by simp[DX]
theorem Xq(l:List Dc)(n:Nat)(h:l.length<=n):(DX l).take n=DX l:=List.take_of_length_le (by simpa [DX] using h)
def G3(c:Int):Bool:=decide (97<=c/\c<=122)||decide (65<=c/\c<=90)
theorem Uh(c:Int):B2 prog 82 [.p (.int .u8 c)] [] λ h r=>h=[]/\r= .p (.bool (G3 c)):=by
 refine B1 func82 rfl An7 (by simp[Tryz.f82]) ?_;by_cases h1:97<=c<;>by_cases h2:c<=122<;>by_cases h3:65<=c<;>by_cases h4:c<=90<;>(try omega)<;>
 . simp only[go_sem,h1,h2,h3,h4];simp[G3,h1,h2,h3,h4]
theorem Ug(c:Int):B2 prog 120 [.p (.int .u8 c)] [] λ h r=>h=[]/\r= .p (.bool (G3 c)):=by
 refine B1 func120 rfl Aho (by simp[Tryz.f120]) ?_;by_cases h1:97<=c<;>by_cases h2:c<=122<;>by_cases h3:65<=c<;>by_cases h4:c<=90<;>(try omega)<;>
 . simp only[go_sem,h1,h2,h3,h4];simp[G3,h1,h2,h3,h4]
def chB(c:Int):Bool:=G3 c||decide (48<=c/\c<=57)||decide (c=45)||decide (c=95)
def C3(l:List UInt8):Bool:=match l with
 | []=>false
 | b::_=>decide (l.length<=12)&&G3 b.toNat&&l.all λ c=>chB c.toNat
theorem Fk(c:Int):chB c=(G3 c||(decide (48<=c)&&decide (c<=57))||decide (c=45)||decide (c=95)):=by simp[chB]
theorem Qi(l:List UInt8):B2 prog 42 [.p (.str l)] [] λ h r=>h=[]/\r= .p (.bool (C3 l)):=by
 refine B1 func42 rfl Ao1 (by simp[Tryz.f42]) ?_;cases l with
 | nil=>
   simp only[go_sem];rfl
 | cons b l=>
   by_cases hL:(12:Int)<((l.length+1:Nat):Int)
   . simp only[go_sem,hL];have:¬l.length+1<=12:=by omega
     simp[C3,this]
   . simp only[go_sem,hL,AX];refine ⟨by omega,Em (Uh _) ?_⟩;rintro h' r ⟨rfl,rfl⟩;simp only[go_sem,hL];cases hb:G3 b.toNat
     . simp only[go_sem];simp[C3,hb]
     . simp only[go_sem];refine Aai rfl ti9 Aam ti5 rfl ?_;simp only[go_sem,Lp];refine B7 (λ i=>⟨[(19,.p (.sl (EH (b::l)))),(20,.p (.int .i64 ((l.length+1:Nat):Int))),(21,.p (.int .i64 (i:Nat)))],[],45⟩) (λ i=>i<=l.length+1/\∀j,j<i->chB ((b::l).getD j 0).toNat=true) (λ i=>l.length+1 - i) 0 ⟨AE _,by simp⟩
         (BW (by simp[Le,Q8,C8,get,DO,Ey,Fa,D.ids])) ?_
       rintro i n ⟨hi,he⟩ ih;simp only[go_sem,Lp];refine Cy (λ h2=>?_) (λ h2=>?_)
       . have Cv:i<(b::l).length:=by simp at h2 ⊢;omega
         simp only[go_sem,Lp,Ab,r7 (b::l) i Cv];have hw:=Cd i (by omega);generalize SB:(((b::l).getD i 0).toNat:Int)=c;refine ⟨by simp at Cv;omega,Em (Uh _) ?_⟩;rintro h' r ⟨rfl,rfl⟩;have Oz:chB c=false->C3 (b::l)=false:=by
           intro hf;have:((b::l).all λ c=>chB c.toNat)=false:=by
             rw[Bool.eq_false_iff];intro ht;have:=AB.1 ht ((b::l).getD i 0) (by simp only[List.getD,Az Cv,A5];exact AN Cv);rw[SB,hf] at this;cases this
           simp only[C3,this,Bool.and_false]
         have Ur:chB c=true->∀j,j<i+1->chB ((b::l).getD j 0).toNat=true:=by
           intro ht j hj;rcases AF.1 hj with hj | rfl
           . exact he j hj
           . rw[SB];exact ht
         have hle:i+1<=l.length+1:=by simp only[An] at Cv;omega
         cases hlc:G3 c
         . by_cases V8:c<48<;>by_cases h57:57<c<;>by_cases h45:c=45<;>by_cases h95:c=95<;>(try omega)<;>
           . simp only[go_sem,hlc,V8,h57,h45,h95,hw];first
               | exact ⟨trivial,by rw[Oz (by simp[Fk,hlc];omega)]⟩
               | exact ⟨rfl,by rw[Oz (by simp[Fk,hlc];omega)]⟩
               | (rw[Oz (by simp[Fk,hlc];omega)])
               | exact ih (i+1) _ ⟨hle,Ur (by simp[Fk,hlc];omega)⟩ (by omega) (BW (by simp[Le,Q8,C8,get,DO,Ey,Fa,D.ids]))
         . simp only[go_sem,hlc,hw];exact ih (i+1) _ ⟨hle,Ur (by simp[Fk,hlc])⟩ (by omega) (BW (by simp[Le,Q8,C8,get,DO,Ey,Fa,D.ids]))
       . simp only[go_sem];have Ea:i=l.length+1:=by simp at h2;omega
         have DD:((b::l).all λ c=>chB c.toNat)=true:=by
           refine AB.2 λ x hx=>?_;obtain ⟨j,hj,rfl⟩:=AD.1 hx;have:=he j (by simp at hj;omega)
           simpa only[List.getD,List.getElem?_eq_getElem hj,Option.getD_some] using this
         have QE:l.length+1<=12:=by omega
         simp only[C3,DD,hb,An,QE,BS,Bool.and_self,and_self]
theorem Qh(l:List UInt8):B2 prog 73 [.p (.str l)] [] λ h r=>h=[]/\r= .p (.bool (C3 l)):=by
 refine B1 func73 rfl Anf (by simp[Tryz.f73]) ?_;cases l with
 | nil=>
   simp only[go_sem];rfl
 | cons b l=>
   by_cases hL:(12:Int)<((l.length+1:Nat):Int)
   . simp only[go_sem,hL];have:¬l.length+1<=12:=by omega
     simp[C3,this]
   . simp only[go_sem,hL,AX];refine ⟨by omega,Em (Ug _) ?_⟩;rintro h' r ⟨rfl,rfl⟩;simp only[go_sem,hL];cases hb:G3 b.toNat
     . simp only[go_sem];simp[C3,hb]
     . simp only[go_sem];refine B7 (λ i=>⟨[(0,.p (.str (b::l))),(3,.p (.int .i64 (i:Nat)))],[],46⟩) (λ i=>i<=l.length+1/\∀j,j<i->chB ((b::l).getD j 0).toNat=true) (λ i=>l.length+1 - i) 0 ⟨AE _,by simp⟩
         (BW (by simp[Le,Q8,C8,get,DO,Ey,Fa,D.ids])) ?_
       rintro i n ⟨hi,he⟩ ih;simp only[go_sem];refine Cy (λ h2=>?_) (λ h2=>?_)
       . have Cv:i<(b::l).length:=by simp at h2 ⊢;omega
         simp only[go_sem,Ab];have hw:=Cd i (by omega);generalize SB:(((b::l).getD i 0).toNat:Int)=c;refine ⟨by simp at Cv;omega,Em (Ug _) ?_⟩;rintro h' r ⟨rfl,rfl⟩;have Oz:chB c=false->C3 (b::l)=false:=by
           intro hf;have:((b::l).all λ c=>chB c.toNat)=false:=by
             rw[Bool.eq_false_iff];intro ht;have:=AB.1 ht ((b::l).getD i 0) (by simp only[List.getD,Az Cv,A5];exact AN Cv);rw[SB,hf] at this;cases this
           simp only[C3,this,Bool.and_false]
         have Ur:chB c=true->∀j,j<i+1->chB ((b::l).getD j 0).toNat=true:=by
           intro ht j hj;rcases AF.1 hj with hj | rfl
           . exact he j hj
           . rw[SB];exact ht
         have hle:i+1<=l.length+1:=by simp only[An] at Cv;omega
         cases hlc:G3 c
         . by_cases V8:c<48<;>by_cases h57:57<c<;>by_cases h45:c=45<;>by_cases h95:c=95<;>(try omega)<;>
           . simp only[go_sem,hlc,V8,h57,h45,h95,hw];first
               | exact ⟨trivial,by rw[Oz (by simp[Fk,hlc];omega)]⟩
               | exact ⟨rfl,by rw[Oz (by simp[Fk,hlc];omega)]⟩
               | (rw[Oz (by simp[Fk,hlc];omega)])
               | exact ih (i+1) _ ⟨hle,Ur (by simp[Fk,hlc];omega)⟩ (by omega) (BW (by simp[Le,Q8,C8,get,DO,Ey,Fa,D.ids]))
         . simp only[go_sem,hlc,hw];exact ih (i+1) _ ⟨hle,Ur (by simp[Fk,hlc])⟩ (by omega) (BW (by simp[Le,Q8,C8,get,DO,Ey,Fa,D.ids]))
       . simp only[go_sem];have Ea:i=l.length+1:=by simp at h2;omega
         have DD:((b::l).all λ c=>chB c.toNat)=true:=by
           refine AB.2 λ x hx=>?_;obtain ⟨j,hj,rfl⟩:=AD.1 hx;have:=he j (by simp at hj;omega)
           simpa only[List.getD,List.getElem?_eq_getElem hj,Option.getD_some] using this
         have QE:l.length+1<=12:=by omega
         simp only[C3,DD,hb,An,QE,BS,Bool.and_self,and_self]
def My(s p:List UInt8):Bool:=decide (p.length<=s.length)&&decide (s.take p.length=p)
theorem Yp(s p:List UInt8):B2 prog 164 [.p (.str s),.p (.str p)] [] λ h r=>h=[]/\r= .p (.bool (My s p)):=by
 refine B1 func164 rfl Ah2 (by simp[Tryz.f164]) ?_;by_cases h1:(p.length:Int)<=s.length
 . simp only[go_sem,h1,Ab];refine ⟨by omega,?_⟩;have h2:p.length<=s.length:=by omega
   simp[My,h2]
 . simp only[go_sem,h1];have h2:¬p.length<=s.length:=by omega
   simp[My,h2]
theorem Wc(s p:List UInt8):B2 prog 170 [.p (.str s),.p (.str p)] [] λ h r=>h=[]/\r= .Dv [.p (.str (if My s p then s.drop p.length else s)),.p (.bool (My s p))]:=by
 refine B1 func170 rfl Ah0 (by simp[Tryz.f170]) ?_;simp only[go_sem];refine Cq (Yp s p) ?_;simp only[go_sem];cases hp:My s p
 . simp only[go_sem];refine Cp ?_;simp only[go_sem];try simp
 . simp only[go_sem,Ab];have h1:p.length<=s.length:=by
     simp only[My,As,Au] at hp;exact hp.1
   refine ⟨by omega,Cp ?_⟩;simp only[go_sem];try simp
theorem Yy(s p:List UInt8):B2 prog 140 [.p (.str s),.p (.str p)] [] λ h r=>h=[]/\r= .Dv [.p (.str (if My s p then s.drop p.length else s)),.p (.bool (My s p))]:=by
 refine B1 func140 rfl Ahd (by simp[Tryz.f140]) ?_;simp only[go_sem];refine Cq (Wc s p) ?_;simp only[go_sem];refine Cp ?_;simp only[go_sem]
def Ee(l:List UInt8):Int:=l.foldl (λ n c=>10*n+((c.toNat:Int) - 48)) 0
def OF(c:Int):Bool:=decide (48<=c)&&decide (c<=57)
def OT(l:List UInt8):Bool:=l.all λ c=>OF c.toNat
def numOf(neg:Bool)(l:List UInt8):Int×Bool:=
 match l with
 | []=>(0,false)
 | b::r=>if 4<r.length+1∨((b.toNat:Int)=48/\(neg=true∨1<r.length+1)) then (0,false)
   else if OT (b::r) then (if neg then 0 - Ee (b::r) else Ee (b::r),true) else (0,false)
def Kn(s:List UInt8):Int×Bool:=if My s [45] then numOf true (s.drop 1) else numOf false s
theorem Re(l:List UInt8)(i:Nat)(h:i<l.length):Ee (l.take (i+1))=10*Ee (l.take i)+(((l.getD i 0).toNat:Int) - 48):=by
 unfold Ee;rw[List.take_succ_eq_append_getElem h,List.foldl_append];simp[List.getD,h]
theorem p10(i:Nat)(h:i<=4):(10:Int) ^ i<=10000:=by
 rcases i with _ | _ | _ | _ | _ | i<;>simp at*<;>omega
theorem Abe(s:List UInt8):B2 prog 108 [.p (.str s)] [] λ h r=>h=[]/\r= .Dv [.p (.int .i64 (Kn s).1),.p (.bool (Kn s).2)]:=by
 refine B1 func108 rfl Ahz (by simp[Tryz.f108]) ?_;simp only[go_sem];refine Cq (Yy s [45]) ?_;simp only[go_sem];have key:Kn s=numOf (My s [45]) (if My s [45]=true then List.drop 1 s else s):=by
   unfold Kn;cases My s [45]<;>rfl
 rw[key];clear key;generalize My s [45]=neg;generalize (if neg=true then List.drop 1 s else s)=l;cases l with
 | nil=>
   simp only[go_sem];refine Cp ?_;simp only[go_sem];try simp[numOf]
 | cons b l=>
   by_cases hL:(4:Int)<((l.length+1:Nat):Int)
   . simp only[go_sem,hL];refine Cp ?_;simp only[go_sem];have:4<l.length+1:=by omega
     try simp[numOf,this]
   . have hL':¬4<l.length+1:=by omega
     have hlen:(b::l).length<=4:=by simp only[An];omega
     have bad:∀c:Int,(∃i,i<(b::l).length/\(((b::l).getD i 0).toNat:Int)=c)->OF c=false->OT (b::l)=false:=by
       rintro c ⟨i,hi,hc⟩ hf;rw[Bool.eq_false_iff];intro ht;have:=AB.1 ht ((b::l).getD i 0) (by simp only[List.getD,Az hi,A5];exact AN hi);simp only[hc,hf] at this;cases this
     by_cases Kf:(b.toNat:Int)=48/\(neg=true∨1<l.length+1)
     . obtain ⟨V8,hn⟩:=Kf;have Kd:numOf neg (b::l)=(0,false):=by simp only[numOf,V8,hn,and_self,or_true,AP]
       cases neg
       . have h1:(1:Int)<((l.length+1:Nat):Int):=by simp at hn;omega
         simp only[go_sem,hL,AX,V8,h1];refine ⟨by omega,Cp ?_⟩;simp only[go_sem,Kd]
       . simp only[go_sem,hL,AX,V8];refine ⟨by omega,Cp ?_⟩;simp only[go_sem,Kd]
     . have Kd:numOf neg (b::l)=if OT (b::l) then (if neg then 0 - Ee (b::l) else Ee (b::l),true) else (0,false):=by
         simp only[numOf,hL',Kf,or_self,Bb]
       have Amk:((b.toNat:Int)≠48)∨((b.toNat:Int)=48/\neg=false/\¬(1:Int)<((l.length+1:Nat):Int)):=by
         by_cases h:(b.toNat:Int)=48
         . right;refine ⟨h,?_,?_⟩
           . cases neg
             . rfl
             . exact (Kf ⟨h,.inl rfl⟩).elim
           . intro h1;exact Kf ⟨h,.inr (by omega)⟩
         . exact .inl h
       rcases Amk with V8 | ⟨V8,hng,h1⟩
       all_goals
         have Qv:=Kd;first | rw[hng] at Qv | skip
         first
           | simp only[go_sem,hL,AX,V8,h1,hng]
           | simp only[go_sem,hL,AX,V8]
         refine ⟨by omega,Aai rfl ti9 Aam ti5 rfl ?_⟩;simp only[go_sem,Lp];refine B7 (λ i=>⟨[(35,.p (.sl (EH (b::l)))),(36,.p (.int .i64 ((l.length+1:Nat):Int))),(37,.p (.int .i64 (i:Nat))),(6,.p (.int .i64 (Ee ((b::l).take i)))),(5,.p (.bool neg))],[],58⟩) (λ i=>i<=l.length+1/\0<=Ee ((b::l).take i)/\Ee ((b::l).take i)<10 ^ i/\∀j,j<i->OF ((b::l).getD j 0).toNat=true) (λ i=>l.length+1 - i) 0 ⟨AE _,by simp[Ee],by simp[Ee],by simp⟩
           (BW (by first | (simp[Le,Q8,C8,get,DO,Ey,Fa,D.ids,Ee];done) | simp[Le,Q8,C8,get,DO,Ey,Fa,D.ids,Ee,hng])) ?_
         rintro i n ⟨hi,Q5,hv1,he⟩ ih;simp only[go_sem,Lp];refine Cy (λ h2=>?_) (λ h2=>?_)
         . have Cv:i<(b::l).length:=by simp at h2 ⊢;omega
           simp only[go_sem,Lp,Ab,r7 (b::l) i Cv];have hw:=Cd i (by omega);have SA:=Re (b::l) i Cv;generalize SB:(((b::l).getD i 0).toNat:Int)=c at SA;refine ⟨by simp only[An] at Cv;omega,?_⟩;have hle:i+1<=l.length+1:=by simp only[An] at Cv;omega
           have hp:(10:Int) ^ i<=10000:=p10 i (by omega);have KF:(10:Int) ^ (i+1)=10*10 ^ i:=by rw[Int.pow_succ];omega
           by_cases OD:c<48
           . simp only[go_sem,OD];refine Cp ?_;simp only[go_sem,Qv,bad c ⟨i,Cv,SB⟩ (by simp[OF];omega)];try simp
           . by_cases I4:57<c
             . simp only[go_sem,OD,I4];refine Cp ?_;simp only[go_sem,Qv,bad c ⟨i,Cv,SB⟩ (by simp[OF];omega)];try simp
             . have w1:IntKind.i64.wrap (10*Ee ((b::l).take i))=10*Ee ((b::l).take i):=by rw[B3]<;>omega
               have w2:IntKind.u8.wrap (c - 48)=c - 48:=by rw[IntKind.wrap_u8];omega
               have w3:IntKind.i64.wrap (c - 48)=c - 48:=by rw[B3]<;>omega
               have w4:IntKind.i64.wrap (10*Ee ((b::l).take i)+(c - 48))=Ee ((b::l).take (i+1)):=by rw[SA,B3]<;>omega
               simp only[go_sem,OD,I4,w1,w2,w3,w4,hw];refine ih (i+1) _ ⟨hle,by omega,by omega,λ j hj=>?_⟩ (by omega) (BW (by simp[Le,Q8,C8,get,DO,Ey,Fa,D.ids]));rcases AF.1 hj with hj | rfl
               . exact he j hj
               . rw[SB];simp[OF];omega
         . simp only[go_sem];have Ea:i=(b::l).length:=by simp at h2 ⊢;omega
           have DD:OT (b::l)=true:=by
             refine AB.2 λ x hx=>?_;obtain ⟨j,hj,rfl⟩:=AD.1 hx;have:=he j (by omega)
             simpa only[List.getD,List.getElem?_eq_getElem hj,Option.getD_some] using this
           have hp:(10:Int) ^ i<=10000:=p10 i (by omega);rw[Ea,Ar] at Q5 hv1;rw[Ea,Ar];have w5:IntKind.i64.wrap (0 - Ee (b::l))=0 - Ee (b::l):=by rw[<-Ea] at hv1;rw[B3]<;>omega
           refine Cy (λ h3=>?_) (λ h3=>?_)
           . simp only[go_sem,w5];refine Cp ?_;have hr3:=Kd;rw[h3] at hr3;first | (simp only[go_sem,hr3,DD,h3];done) | (simp only[go_sem,hr3,DD,h3];simp;done) | (simp[hng] at h3;done)
           . simp only[go_sem];refine Cp ?_;have hr3:=Kd;rw[h3] at hr3;simp only[go_sem,hr3,DD,h3];try simp
structure Et where
 name:List UInt8
 x:Int
 y:Int
 deriving DecidableEq
structure Da where
 name:List UInt8
 CE:Bool
 HL:Int
 out:Int
 Cs:Int
 base:Int
 deriving DecidableEq
structure Nt where
 blocks:List Et
 next:List (List Int)
 spurs:List Da
 B6:List Int
 cq:Int
 ca:Int
 cd:Int
 cp:Int
 deriving DecidableEq
def FR:Et:=⟨[],0,0⟩
def Cu:Da:=⟨[],false,0,0,0,0⟩
def CX(l:List Et):List (List Pd):=l.map λ b=>[.str b.name,.int .i64 b.x,.int .i64 b.y]
def Cj(l:List (List Int)):List (List Pd):=l.map λ r=>[.sl (BZ r)]
def CR(l:List Da):List (List Pd):=l.map λ s=>[.str s.name,.bool s.CE,.int .i64 s.HL,.int .i64 s.out,.int .i64 s.Cs,.int .i64 s.base]
theorem Ci(l:List Et):(CX l).length=l.length:=by simp[CX]
theorem Cf(l:List (List Int)):(Cj l).length=l.length:=by simp[Cj]
theorem Cg(l:List Da):(CR l).length=l.length:=by simp[CR]
theorem JU(l:List Et)(i:Nat)(h:i<l.length):(CX l).getD i []=[.str (l.getD i FR).name,.int .i64 (l.getD i FR).x,.int .i64 (l.getD i FR).y]:=by simp[CX,List.getD,h]
theorem Gx(l:List (List Int))(i:Nat)(h:i<l.length):(Cj l).getD i []=[.sl (BZ (l.getD i []))]:=by simp[Cj,List.getD,h]
theorem EB(l:List Da)(i:Nat)(h:i<l.length):(CR l).getD i []=[.str (l.getD i Cu).name,.bool (l.getD i Cu).CE,.int .i64 (l.getD i Cu).HL,.int .i64 (l.getD i Cu).out,.int .i64 (l.getD i Cu).Cs,.int .i64 (l.getD i Cu).base]:=by simp[CR,List.getD,h]
theorem Xn(l:List Et)(b:Et):CX (l++[b])=CX l++[[.str b.name,.int .i64 b.x,.int .i64 b.y]]:=by simp[CX]
theorem Oe(l:List Da)(s:Da):CR (l++[s])=CR l++[[.str s.name,.bool s.CE,.int .i64 s.HL,.int .i64 s.out,.int .i64 s.Cs,.int .i64 s.base]]:=by simp[CR]
theorem Xm(l:List Et)(n:Nat)(h:l.length<=n):(CX l).take n=CX l:=List.take_of_length_le (by simpa [CX] using h)
theorem Aie(l:List (List Int))(n:Nat)(h:l.length<=n):(Cj l).take n=Cj l:=List.take_of_length_le (by simpa [Cj] using h)
theorem Xl(l:List Da)(n:Nat)(h:l.length<=n):(CR l).take n=CR l:=List.take_of_length_le (by simpa [CR] using h)
theorem NF(l:List (List Int))(i:Nat)(r:List Int):Cj (l.set i r)=(Cj l).set i [.sl (BZ r)]:=by simp[Cj,Br]
def CO(l:List Bool):List (List Pd):=l.map λ b=>[.bool b]
def Nt.cs(n:Nt):List D:=[.p (.sl (CX n.blocks)),.p (.sl (Cj n.next)),.p (.sl (CR n.spurs)),.p (.sl (BZ n.B6)),.p (.int .i64 n.cq),.p (.int .i64 n.ca),.p (.int .i64 n.cd),.p (.int .i64 n.cp)]
def K7:List Int->Int->List Int
 | [],x=>[x]
 | y::r,x=>if x<y then x::y::r else y::K7 r x
theorem Alx(l:List Int)(x:Int):(K7 l x).length=l.length+1:=by
 induction l with
 | nil=>rfl
 | cons y r ih=>unfold K7;split<;>simp[ih]
theorem Ul(l:List Int)(x z:Int):z∈K7 l x↔z=x∨z∈l:=by
 induction l with
 | nil=>simp[K7]
 | cons y r ih=>
   unfold K7;split
   . simp
   . simp only[AG,ih];constructor<;>(rintro (h | h | h)<;>simp[h])
theorem Aly(l:List Int)(x:Int)(h:l.Pairwise (· < ·))(hx:x∉l):(K7 l x).Pairwise (· < ·):=by
 induction l with
 | nil=>simp[K7]
 | cons y r ih=>
   rw[BH] at h;unfold K7;split
   . rename_i h1;rw[BH];refine ⟨λ z hz=>?_,BH.2 h⟩;rcases AG.1 hz with rfl | hz
     . exact h1
     . have:=h.1 z hz;omega
   . rename_i h1;have Dt:x≠y:=λ e=>hx (by simp[e]);rw[BH];refine ⟨λ z hz=>?_,ih h.2 (λ hm=>hx (List.mem_cons_of_mem _ hm))⟩;rcases (Ul r x z).1 hz with rfl | hz
     . omega
     . exact h.1 z hz
theorem getD_eq{α:Type}{l:List α}{k:Nat}{x:α}(h:k<l.length):l.getD k x=l[k]:=by simp[List.getD,h]
theorem G1(l:List Bool)(i:Nat)(h:i<l.length):(CO l).getD i []=[.bool (l.getD i false)]:=by simp[CO,List.getD,h]
theorem CI{α:Type}(l:List α)(i:Nat)(x:α)(h:i<l.length):l.take (i+1)=l.take i++[l.getD i x]:=by
 rw[BP,List.getD,Az h];rfl
theorem L2(l:List Int)(i:Nat):(BZ l).take i=BZ (l.take i):=by simp[BZ,BN]
theorem CA{n:Nat}(h:n<10000000):IntKind.i64.wrap ((n:Int)+1)=((n+1:Nat):Int):=Cd n (by omega)
theorem gde{α:Type}{l:List α}{k:Nat}{x:α}(h:k<l.length):l.getD k x=l[k]:=by simp[List.getD,h]
theorem Fg{α:Type}(l:List α)(v:Nat)(x d:α)(w:Nat)(hv:v<l.length):(l.set v x).getD w d=if w=v then x else l.getD w d:=by
 simp only[List.getD,BR];by_cases h:w=v
 . subst h;simp[hv]
 . rw[if_neg (Bc h),if_neg h]
theorem getD_map'{α β:Type}(f:α->β)(l:List α)(i:Nat)(x:α)(y:β)(h:i<l.length):(l.map f).getD i y=f (l.getD i x):=by simp[List.getD,h]
theorem Al5:∀(a b:List Int),a.Nodup->(∀x∈a,x∈b)->a.length<=b.length
 | [],_,_,_=>by simp
 | x::a,b,hn,hs=>by
   rw[BD] at hn;have hx:=hs x (by simp);have h1:=Al5 a (b.erase x) hn.2 (λ y hy=>(List.mem_erase_of_ne (λ e=>hn.1 (by rw[<-e];exact hy))).2 (hs y (by simp[hy])));rw[List.length_erase_of_mem hx] at h1;have:=List.length_pos_of_mem hx;simp only[An];omega
def IT(n:Nat):List UInt8:=if h:n<10 then [UInt8.ofNat (48+n)] else IT (n / 10)++[UInt8.ofNat (48+n % 10)]
termination_by n
decreasing_by omega
def Wb(n:Int):List UInt8:=if n<0 then 45::IT (-n).toNat else IT n.toNat
theorem Hb(n:Nat)(h:n<10):IT n=[UInt8.ofNat (48+n)]:=by rw[IT,dif_pos h]
theorem NG(n:Nat)(h:¬n<10):IT n=IT (n / 10)++[UInt8.ofNat (48+n % 10)]:=by rw[IT,dif_neg h]
theorem JV:∀(k n:Nat),n<10 ^ (k+1)->(IT n).length<=k+1
 | 0,n,h=>by rw[Hb n (by simpa using h)];simp
 | k+1,n,h=>by
   by_cases h1:n<10
   . rw[Hb n h1];simp
   . have:=JV k (n / 10) (by rw[Nat.pow_succ] at h;omega);rw[NG n h1];simp;omega
theorem Jv(n:Nat)(hn:n<=1000000000000000):B2 prog 56 [.p (.int .i64 (n:Nat))] [] λ h r=>h=[]/\r= .p (.str (IT n)):=by
 refine B1 func56 rfl o9 (by simp[Tryz.f56]) ?_;have hlen:=JV 15 n (by omega);have h0:¬(n:Int)<0:=by omega
 simp only[go_sem,h0];refine B7 (λ q:Nat×List UInt8=>⟨[(0,.p (.int .i64 (q.1:Nat))),(3,.p (.str q.2))],[],23⟩) (λ q=>q.1<=n/\IT q.1++q.2=IT n) (λ q=>q.1) (n,[]) ⟨Ai _,by simp⟩ (BW (by simp[ZF])) ?_;rintro ⟨m,s⟩ k ⟨hm,he⟩ ih;simp only at hm he;have V1:(m:Int).tmod 10=((m % 10:Nat):Int):=by rw[Int.tmod_eq_emod_of_nonneg (by omega)];omega
 have hdiv:(m:Int).tdiv 10=((m / 10:Nat):Int):=by rw[Int.tdiv_eq_ediv_of_nonneg (by omega)];omega
 have w1:IntKind.i64.wrap (48+((m % 10:Nat):Int))=48+((m % 10:Nat):Int):=by rw[B3]<;>omega
 have w2:IntKind.u8.wrap (48+((m % 10:Nat):Int))=((UInt8.ofNat (48+m % 10)).toNat:Int):=by rw[IntKind.wrap_u8];simp
 have w3:IntKind.i64.wrap ((m / 10:Nat):Int)=((m / 10:Nat):Int):=by rw[B3]<;>omega
 have Ato:¬(10:Int)=0:=by decide
 have hsl:s.length<=20:=by have:=congrArg List.length he;simp at this;omega
 simp only[go_sem,V1,hdiv,w1,w2,Ato];refine Ad0 (l:=[UInt8.ofNat (48+m % 10)]) rfl Aam ti9 ti5 rfl rfl ?_;simp only[go_sem,V1,hdiv,w3,Ato];refine ⟨by unfold maxLen;omega,?_⟩;refine Cy (λ h2=>?_) (λ h2=>?_)
 . simp only[go_sem];have h3:m<10:=by simp at h2;omega
   rw[<-he,Hb m h3,Nat.mod_eq_of_lt h3];rfl
 . have h3:¬m<10:=by simp at h2;omega
   simp only[go_sem];refine ih (m / 10,[UInt8.ofNat (48+m % 10)]++s) _ ⟨by simp only;omega,by rw[<-he,NG m h3];simp⟩ (by simp only;omega) ?_
   (refine BW ?_;simp[ZF];done)
theorem Aik(n:Int)(h0:-1000000000000000<=n)(h1:n<=1000000000000000):B2 prog 56 [.p (.int .i64 n)] [] λ h r=>h=[]/\r= .p (.str (Wb n)):=by
 by_cases hn:n<0
 . refine B1 func56 rfl o9 (by simp[Tryz.f56]) ?_;have hw:IntKind.i64.wrap (0 - n)=(((-n).toNat:Nat):Int):=by rw[B3]<;>omega
   have hlen:=JV 15 (-n).toNat (by omega);simp only[go_sem,hn,hw];refine Cq (Jv (-n).toNat (by omega)) ?_;simp only[go_sem];refine ⟨by unfold maxLen;omega,?_⟩;(try simp only[go_sem]);simp[Wb,hn]
 . have:=Jv n.toNat (by omega);rw[show ((n.toNat:Nat):Int)=n by omega] at this;refine this.mono ?_;rintro h r ⟨rfl,rfl⟩;exact ⟨rfl,by simp[Wb,hn]⟩
theorem Np(l:List Int)(x:Int)(hl:l.length<=10000000):
   B2 prog 45 [.p (.sl (BZ l)),.p (.int .i64 x)] [] λ h r=>h=[]/\r= .p (.bool (decide (x∈l))):=by
 refine B1 func45 rfl UY (by simp[Tryz.f45]) ?_;simp only[go_sem,BY];refine B7 (λ i=>⟨[(0,.p (.sl (BZ l))),(1,.p (.int .i64 x)),(5,.p (.int .i64 (i:Nat)))],[],18⟩) (λ i=>i<=l.length/\x∉l.take i) (λ i=>l.length - i) 0 ⟨AE _,by simp⟩ (BW (by simp[ZF,BZ])) ?_;rintro i n ⟨hi,he⟩ ih;simp only[go_sem,BY];refine Cy (λ h2=>?_) (λ h2=>?_)
 . have Cv:i<l.length:=by simp at h2;omega
   have hw:=Cd i (by omega);have hg:=Cm l i Cv;have hx:l[i]?=some (l.getD i 0):=by simp[List.getD,Cv]
   have C6:(0:Int)<=(i:Int)/\(i:Int)<(l.length:Int):=by omega
   have Fe:=CF l i 0 Cv;generalize l.getD i 0=y at*;simp only[go_sem,BY,Ab,hg,C6];cases hv:decide (y=x)
   . simp only[go_sem,hv,hw];refine ih (i+1) _ ⟨Cv,?_⟩ (by omega) ?_
     . rw[BP,hx];have:¬x=y:=λ e=>Ae hv e.symm;simp[he,this]
     . (refine BW ?_;simp[ZF,BZ];done)
   . simp only[go_sem,hv];have hm:x∈l:=by rw[<-Ad hv];exact Fe
     simp[hm]
 . simp only[go_sem];have:i=l.length:=by simp at h2;omega
   subst this;rw[Ar] at he;simp[he]
theorem Arx(l:List Int)(x:Int)(hl:l.length<=10000000):
   B2 prog 45 [.ref 1000000 0 l.length l.length,.p (.int .i64 x)] [(1000000,.arr 3 1 (BZ l))] λ h r=>h=[(1000000,.arr 3 1 (BZ l))]/\r= .p (.bool (decide (x∈l))):=by
 refine B1 func45 rfl UY (by simp[Tryz.f45]) ?_;simp only[go_sem,BY];refine B7 (λ i=>⟨[(0,.ref 1000000 0 l.length l.length),(1,.p (.int .i64 x)),(5,.p (.int .i64 (i:Nat)))],[(1000000,.arr 3 1 (BZ l))],18⟩) (λ i=>i<=l.length/\x∉l.take i) (λ i=>l.length - i) 0 ⟨AE _,by simp⟩ (BW (by simp[ZF,BZ])) ?_;rintro i n ⟨hi,he⟩ ih;simp only[go_sem,BY];refine Cy (λ h2=>?_) (λ h2=>?_)
 . have Cv:i<l.length:=by simp at h2;omega
   have hw:=Cd i (by omega);have hg:=Cm l i Cv;have hx:l[i]?=some (l.getD i 0):=by simp[List.getD,Cv]
   have C6:(0:Int)<=(i:Int)/\(i:Int)<(l.length:Int):=by omega
   have Fe:=CF l i 0 Cv;generalize l.getD i 0=y at*;simp only[go_sem,BY,Ab,hg,C6];cases hv:decide (y=x)
   . simp only[go_sem,hv,hw];refine ih (i+1) _ ⟨Cv,?_⟩ (by omega) ?_
     . rw[BP,hx];have:¬x=y:=λ e=>Ae hv e.symm;simp[he,this]
     . (refine BW ?_;simp[ZF,BZ];done)
   . simp only[go_sem,hv];have hm:x∈l:=by rw[<-Ad hv];exact Fe
     simp[hm]
 . simp only[go_sem];have:i=l.length:=by simp at h2;omega
   subst this;rw[Ar] at he;simp[he]
theorem N6(l:List Int)(x:Int)(hl:l.length<=10000000):
   B2 prog 102 [.p (.sl (BZ l)),.p (.int .i64 x)] [] λ h r=>h=[]/\r= .p (.sl (BZ (K7 l x))):=by
 refine B1 func102 rfl Xj (by simp[Tryz.f102]) ?_;simp only[go_sem,BY];refine B7 (λ q:Nat×Bool×List Int=>⟨[(0,.p (.sl (BZ l))),(1,.p (.int .i64 x)),(5,.ref 27 0 q.2.2.length q.2.2.length),(6,.p (.bool q.2.1)),(7,.p (.int .i64 (q.1:Nat)))],[(27,.arr 3 1 (BZ q.2.2))],42⟩)
   (λ q=>q.1<=l.length/\q.2.2.length<=q.1+q.2.1.toNat/\q.2.2++(if q.2.1 then l.drop q.1 else K7 (l.drop q.1) x)=K7 l x) (λ q=>l.length - q.1) (0,false,[]) ⟨AE _,by simp,by simp⟩ ((Wk.nil (t:=5) (q:=27) (sz:=1) 3 rfl rfl (by decide)).trans (BW (by simp[ZF,BZ]))) ?_
 rintro ⟨i,dn,acc⟩ n ⟨hi,ha,he⟩ ih;simp only at hi ha he;simp only[go_sem,BY];refine Cy (λ h2=>?_) (λ h2=>?_)
 . have Cv:i<l.length:=by simp at h2;omega
   have hw:=Cd i (by omega);have hg:=Cm l i Cv;have C6:(0:Int)<=(i:Int)/\(i:Int)<(l.length:Int):=by omega
   rw[Df l i 0 Cv] at he;generalize l.getD i 0=y at*;cases dn
   . cases hv:decide (x<y)
     . have hv':¬x<y:=Ae hv;simp only[go_sem,BY,Ab,hg,C6,hv,hv'];refine ⟨⟨Dy _ _ rfl,by simp at ha;omega⟩,?_⟩;simp only[go_sem,hw];refine ih (i+1,false,acc++[y]) _ ⟨Cv,by simp at ha ⊢;omega,?_⟩ (by simp only;omega) ?_
       . rw[<-he];simp[K7,hv']
       . (refine BW ?_;simp[ZF,D0,BY];done)
     . have hv':x<y:=Ad hv;simp only[go_sem,BY,Ab,hg,C6,hv,hv'];refine ⟨⟨Dy _ _ rfl,by simp at ha;omega⟩,⟨Dy _ _ rfl,by simp at ha;simp[BY];omega⟩,?_⟩;simp only[go_sem,hw];refine ih (i+1,true,acc++[x]++[y]) _ ⟨Cv,by simp at ha ⊢;omega,?_⟩ (by simp only;omega) ?_
       . rw[<-he];simp[K7,hv']
       . (refine BW ?_;simp[ZF,BZ];done)
   . simp only[go_sem,BY,Ab,hg,C6];refine ⟨⟨Dy _ _ rfl,by simp at ha;omega⟩,?_⟩;simp only[go_sem,hw];refine ih (i+1,true,acc++[y]) _ ⟨Cv,by simp at ha ⊢;omega,?_⟩ (by simp only;omega) ?_
     . rw[<-he];simp
     . (refine BW ?_;simp[ZF,D0,BY];done)
 . have:i=l.length:=by simp at h2;omega
   subst this;rw[AZ] at he;cases dn
   . simp only[go_sem,BY];refine ⟨⟨Dy _ _ rfl,by simp at ha;omega⟩,?_⟩;refine BX ?_;simp only[go_sem];rw[<-he];(try rw[AA (by simp[BY])]);simp[K7,BZ]
   . simp only[go_sem];refine BX ?_;simp only[go_sem];rw[<-he];simp[GD,BY]
def JK(nb i:Nat)(l:List Int)(k:Nat):Prop:=0<=l.getD k 0/\l.getD k 0<(nb:Int)/\l.getD k 0≠(i:Int)/\(0<k->l.getD (k - 1) 0<l.getD k 0)
instance (nb i:Nat) (l:List Int) (k:Nat):Decidable (JK nb i l k):=by unfold JK;exact inferInstance
def Ip(nb i:Nat)(l:List Int):Prop:=∀k,k<l.length->JK nb i l k
instance (nb i:Nat) (l:List Int):Decidable (Ip nb i l):=by unfold Ip;exact inferInstance
def DV(g:List (List Int)):Prop:=g.length<=24/\∀i,i<g.length->Ip g.length i (g.getD i [])
instance (g:List (List Int)):Decidable (DV g):=by unfold DV;exact inferInstance
def Ri(g:List (List Int)):Prop:=g.length<=10000000/\∀r∈g,r.length<=10000000
theorem HZ(m:Nat)(h:m<9223372036854775807):IntKind.i64.wrap (((m+1:Nat):Int) - 1)=(m:Int):=by rw[B3]<;>omega
theorem Aeh(g:List (List Int))(hg:Ri g):B2 prog 119 [.p (.sl (Cj g))] [] λ h r=>h=[]/\r= .p (.bool (decide (DV g))):=by
 obtain ⟨VC,k4⟩:=hg;refine B1 func119 rfl Xi (by simp[Tryz.f119]) ?_;simp only[go_sem,Cf];refine Cy (λ h1=>?_) (λ h1=>?_)
 . simp only[go_sem];rw[Ah (λ hp=>?_)];have:=hp.1;simp at h1;omega
 have hlen:g.length<=24:=by simp at h1;omega
 simp only[go_sem];refine B7 (λ i:Nat=>⟨[(0,.p (.sl (Cj g))),(3,.p (.int .i64 (i:Nat)))],[],60⟩) (λ i=>i<=g.length/\∀j,j<i->Ip g.length j (g.getD j [])) (λ i=>g.length - i) 0 ⟨AE _,λ j hj=>absurd hj (A0 _)⟩ (BW (by simp[ZF])) ?_;rintro i n ⟨hi,K9⟩ ih;simp only[go_sem,Cf];refine Cy (λ h2=>?_) (λ h2=>?_);rotate_left
 . simp only[go_sem];have:i=g.length:=by simp at h2;omega
   subst this;rw[Ag ⟨hlen,K9⟩]
 have Cv:i<g.length:=by simp at h2;omega
 have hw:=Cd i (by omega);have hrl:=k4 _ (CF g i [] Cv);have IG:=Gx g i Cv;have Kf:¬Ip g.length i (g.getD i [])->decide (DV g)=false:=λ h=>Ah (λ hp=>h (hp.2 i Cv));have OO:Ip g.length i (g.getD i [])->∀j,j<i+1->Ip g.length j (g.getD j []):=λ h j hj=>by
   rcases AF.1 hj with h3 | rfl
   . exact K9 j h3
   . exact h
 generalize g.getD i []=r at hrl IG Kf OO;have C6:(0:Int)<=(i:Int)/\(i:Int)<(g.length:Int):=by omega
 simp only[go_sem];refine B7 (λ k:Nat=>⟨[(0,.p (.sl (Cj g))),(3,.p (.int .i64 (i:Nat))),(4,.p (.int .i64 (k:Nat)))],[],60⟩) (λ k=>k<=r.length/\∀j,j<k->JK g.length i r j) (λ k=>r.length - k) 0 ⟨AE _,λ j hj=>absurd hj (A0 _)⟩ (BW (by simp[ZF])) ?_;rintro k n2 ⟨hk,Qx⟩ Hw;simp only[go_sem,Cf,BY,Ab,IG,C6];refine Cy (λ h3=>?_) (λ h3=>?_);rotate_left
 . have:k=r.length:=by simp at h3;omega
   subst this;simp only[go_sem,hw];refine ih (i+1) _ ⟨Cv,OO Qx⟩ (by omega) ?_
   (refine BW ?_;simp[ZF];done)
 have J6:k<r.length:=by simp at h3;omega
 have GO:=Cd k (by omega);have Mo:=Cm r k J6;have Hn:(0:Int)<=(k:Int)/\(k:Int)<(r.length:Int):=by omega
 have Jr:JK g.length i r k↔(0<=r.getD k 0/\r.getD k 0<(g.length:Int)/\r.getD k 0≠(i:Int)/\(0<k->r.getD (k - 1) 0<r.getD k 0)):=Iff.rfl;have Dt:¬JK g.length i r k->decide (DV g)=false:=λ h=>Kf (λ hp=>h (hp k J6));have Ur:JK g.length i r k->∀j,j<k+1->JK g.length i r j:=λ h j hj=>by
   rcases AF.1 hj with h4 | rfl
   . exact Qx j h4
   . exact h
 rcases k with _ | m
 . have hz0:(0:Int)<(r.length:Int):=by omega
   have hwz:IntKind.i64.wrap (0+1)=1:=rfl;generalize r.getD 0 0=y at Mo Jr;cases c1:decide (y<0);rotate_left
   . simp only[go_sem,Cf,BY,Ab,IG,C6,Mo,hz0,c1];rw[Dt (λ hp=>by have:=Jr.1 hp;simp at c1;omega)]
   cases c2:decide ((g.length:Int)<=y);rotate_left
   . simp only[go_sem,Cf,BY,Ab,IG,C6,Mo,hz0,c1,c2];rw[Dt (λ hp=>by have:=Jr.1 hp;simp at c2;omega)]
   cases c3:decide (y=(i:Int));rotate_left
   . simp only[go_sem,Cf,BY,Ab,IG,C6,Mo,hz0,c1,c2,c3];rw[Dt (λ hp=>by have:=Jr.1 hp;simp at c3;omega)]
   simp only[go_sem,Cf,BY,Ab,IG,C6,Mo,hz0,c1,c2,c3,hwz];refine Hw (0+1) _ ⟨J6,Ur (Jr.2 (by simp at c1 c2 c3;exact ⟨by omega,by omega,c3,λ h=>absurd h (Nat.lt_irrefl _)⟩))⟩ (by omega) ?_
   (refine BW ?_;simp[ZF];done)
 . have hmt:m<r.length:=by omega
   have hgm:=Cm r m hmt;have hm0:(0:Int)<=(m:Int)/\(m:Int)<(r.length:Int):=by omega
   have hwp:=HZ m (by omega);have hkp:(0:Int)<((m+1:Nat):Int):=by omega
   rw[show m+1 - 1=m from rfl] at Jr;generalize r.getD (m+1) 0=y at Mo Jr;generalize r.getD m 0=z at hgm Jr;cases c1:decide (y<0);rotate_left
   . simp only[go_sem,Cf,BY,Ab,IG,C6,Mo,Hn,c1];rw[Dt (λ hp=>by have:=Jr.1 hp;simp at c1;omega)]
   cases c2:decide ((g.length:Int)<=y);rotate_left
   . simp only[go_sem,Cf,BY,Ab,IG,C6,Mo,Hn,c1,c2];rw[Dt (λ hp=>by have:=Jr.1 hp;simp at c2;omega)]
   cases c3:decide (y=(i:Int));rotate_left
   . simp only[go_sem,Cf,BY,Ab,IG,C6,Mo,Hn,c1,c2,c3];rw[Dt (λ hp=>by have:=Jr.1 hp;simp at c3;omega)]
   cases c4:decide (y<=z);rotate_left
   . simp only[go_sem,Cf,BY,Ab,IG,C6,Mo,Hn,hgm,hm0,hwp,hkp,c1,c2,c3,c4];rw[Dt (λ hp=>by have:=(Jr.1 hp).2.2.2 (by omega);simp at c4;omega)]
   simp only[go_sem,Cf,BY,Ab,IG,C6,Mo,Hn,hgm,hm0,hwp,hkp,c1,c2,c3,c4,GO];refine Hw (m+1+1) _ ⟨J6,Ur (Jr.2 (by simp at c1 c2 c3 c4;exact ⟨by omega,by omega,c3,λ _=>by omega⟩))⟩ (by omega) ?_
   (refine BW ?_;simp[ZF];done)
def YS(b:Et):Prop:=-9999<=b.x/\b.x<=9999/\-9999<=b.y/\b.y<=9999
instance (b:Et):Decidable (YS b):=by unfold YS;exact inferInstance
def Jh(n:Nt):Prop:=1<=n.blocks.length/\n.blocks.length<=24/\n.next.length=n.blocks.length/\∀i,i<n.blocks.length->YS (n.blocks.getD i FR)/\(n.next.getD i []).length<=4/\Ip n.blocks.length i (n.next.getD i [])
instance (n:Nt):Decidable (Jh n):=by unfold Jh;exact inferInstance
theorem Aj1(n:Nt)(hb:n.blocks.length<=10000000)(hg:Ri n.next):B2 prog 83 [.agg n.cs] [] λ h r=>h=[]/\r= .p (.bool (decide (Jh n))):=by
 obtain ⟨VC,k4⟩:=hg;obtain ⟨bl,nx,sp,rb,cq,ca,cd,cp⟩:=n;simp only at hb VC k4;refine B1 func83 rfl An6 (by simp[Tryz.f83]) ?_;cases d1:decide ((bl.length:Int)<1);rotate_left
 . simp only[go_sem,Nt.cs,Ci,Cf,d1];rw[Ah (λ hp=>by have:=hp.1;have hd:=Ad d1;simp only at this;omega)]
 cases d2:decide (24<(bl.length:Int));rotate_left
 . simp only[go_sem,Nt.cs,Ci,Cf,d1,d2];rw[Ah (λ hp=>by have:=hp.2.1;simp at d2;simp only at this;omega)]
 cases d3:decide ((nx.length:Int)=(bl.length:Int))
 . simp only[go_sem,Nt.cs,Ci,Cf,d1,d2,d3];rw[Ah (λ hp=>by have:=hp.2.2.1;have hd:=Ae d3;simp only at this;omega)]
 have hl1:1<=bl.length:=by have:=Ae d1;omega
 have Uz:bl.length<=24:=by have:=Ae d2;omega
 have hl3:nx.length=bl.length:=by have:=Ad d3;omega
 simp only[go_sem,Nt.cs,Ci,Cf,d1,d2,d3];clear d1 d2 d3;refine B7 (λ i:Nat=>⟨[(1,.ptr 1 0),(3,.p (.int .i64 (i:Nat)))],[(1,.box (Nt.cs ⟨bl,nx,sp,rb,cq,ca,cd,cp⟩))],114⟩) (λ i=>i<=bl.length/\∀j,j<i->YS (bl.getD j FR)/\(nx.getD j []).length<=4/\Ip bl.length j (nx.getD j [])) (λ i=>bl.length - i) 0 ⟨AE _,λ j hj=>absurd hj (A0 _)⟩ (BW (by simp[ZF,Nt.cs])) ?_;rintro i n ⟨hi,K9⟩ ih;simp only[go_sem,Nt.cs,Ci];refine Cy (λ h2=>?_) (λ h2=>?_);rotate_left
 . simp only[go_sem];have:i=bl.length:=by simp at h2;omega
   subst this;rw[Ag ⟨hl1,Uz,hl3,K9⟩]
 have Cv:i<bl.length:=by simp at h2;omega
 have hw:=Cd i (by omega);have hrl:=k4 _ (CF nx i [] (by omega));have IG:=Gx nx i (by omega);have hgb:=JU bl i Cv;have SC:¬(YS (bl.getD i FR)/\(nx.getD i []).length<=4/\Ip bl.length i (nx.getD i []))->decide (Jh ⟨bl,nx,sp,rb,cq,ca,cd,cp⟩)=false:=λ h=>Ah (λ hp=>h (hp.2.2.2 i Cv));have Ac6:(YS (bl.getD i FR)/\(nx.getD i []).length<=4/\Ip bl.length i (nx.getD i []))->∀j,j<i+1->YS (bl.getD j FR)/\(nx.getD j []).length<=4/\Ip bl.length j (nx.getD j []):=λ h j hj=>by
   rcases AF.1 hj with h3 | rfl
   . exact K9 j h3
   . exact h
 generalize nx.getD i []=r at hrl IG SC Ac6;generalize bl.getD i FR=b at hgb SC Ac6;have C6:(0:Int)<=(i:Int)/\(i:Int)<(nx.length:Int):=by omega
 have Ii:(i:Int)<(bl.length:Int):=by omega
 cases c1:decide (b.x< -9999);rotate_left
 . simp only[go_sem,Cf,Ci,BY,Nt.cs,Ab,IG,hgb,C6,Ii,c1];rw[SC (λ hp=>by have:=hp.1.1;simp at c1;omega)]
 cases c2:decide (9999<b.x);rotate_left
 . simp only[go_sem,Cf,Ci,BY,Nt.cs,Ab,IG,hgb,C6,Ii,c1,c2];rw[SC (λ hp=>by have:=hp.1.2.1;simp at c2;omega)]
 cases c3:decide (b.y< -9999);rotate_left
 . simp only[go_sem,Cf,Ci,BY,Nt.cs,Ab,IG,hgb,C6,Ii,c1,c2,c3];rw[SC (λ hp=>by have:=hp.1.2.2.1;simp at c3;omega)]
 cases c4:decide (9999<b.y);rotate_left
 . simp only[go_sem,Cf,Ci,BY,Nt.cs,Ab,IG,hgb,C6,Ii,c1,c2,c3,c4];rw[SC (λ hp=>by have:=hp.1.2.2.2;simp at c4;omega)]
 cases c5:decide (4<(r.length:Int));rotate_left
 . simp only[go_sem,Cf,Ci,BY,Nt.cs,Ab,IG,hgb,C6,Ii,c1,c2,c3,c4,c5];rw[SC (λ hp=>by have:=hp.2.1;simp at c5;omega)]
 simp only[go_sem,Cf,Ci,BY,Nt.cs,Ab,IG,hgb,C6,Ii,c1,c2,c3,c4,c5];have hxy:YS b:=by simp at c1 c2 c3 c4;exact ⟨c1,c2,c3,c4⟩
 have hr4:r.length<=4:=by simp at c5;omega
 clear c1 c2 c3 c4 c5;have Kf:¬Ip bl.length i r->decide (Jh ⟨bl,nx,sp,rb,cq,ca,cd,cp⟩)=false:=λ h=>SC (λ hp=>h hp.2.2);have OO:Ip bl.length i r->∀j,j<i+1->YS (bl.getD j FR)/\(nx.getD j []).length<=4/\Ip bl.length j (nx.getD j []):=λ h=>Ac6 ⟨hxy,hr4,h⟩;refine B7 (λ k:Nat=>⟨[(1,.ptr 1 0),(3,.p (.int .i64 (i:Nat))),(4,.ptr 4 0),(5,.p (.int .i64 (k:Nat)))],[(1,.box (Nt.cs ⟨bl,nx,sp,rb,cq,ca,cd,cp⟩)),(4,.box [.p (.str b.name),.p (.int .i64 b.x),.p (.int .i64 b.y)])],114⟩) (λ k=>k<=r.length/\∀j,j<k->JK bl.length i r j) (λ k=>r.length - k) 0 ⟨AE _,λ j hj=>absurd hj (A0 _)⟩ (BW (by simp[ZF,Nt.cs])) ?_;rintro k n2 ⟨hk,Qx⟩ Hw;simp only[go_sem,Cf,Ci,BY,Nt.cs,Ab,IG,C6,Ii];refine Cy (λ h3=>?_) (λ h3=>?_);rotate_left
 . have:k=r.length:=by simp at h3;omega
   subst this;simp only[go_sem,hw];refine ih (i+1) _ ⟨Cv,OO Qx⟩ (by omega) ?_
   (refine BW ?_;simp[ZF,Nt.cs];done)
 have J6:k<r.length:=by simp at h3;omega
 have GO:=Cd k (by omega);have Mo:=Cm r k J6;have Hn:(0:Int)<=(k:Int)/\(k:Int)<(r.length:Int):=by omega
 have Jr:JK bl.length i r k↔(0<=r.getD k 0/\r.getD k 0<(bl.length:Int)/\r.getD k 0≠(i:Int)/\(0<k->r.getD (k - 1) 0<r.getD k 0)):=Iff.rfl;have Dt:¬JK bl.length i r k->decide (Jh ⟨bl,nx,sp,rb,cq,ca,cd,cp⟩)=false:=λ h=>Kf (λ hp=>h (hp k J6));have Ur:JK bl.length i r k->∀j,j<k+1->JK bl.length i r j:=λ h j hj=>by
   rcases AF.1 hj with h4 | rfl
   . exact Qx j h4
   . exact h
 rcases k with _ | m
 . have hz0:(0:Int)<(r.length:Int):=by omega
   have hwz:IntKind.i64.wrap (0+1)=1:=rfl;generalize r.getD 0 0=y at Mo Jr;cases c1:decide (y<0);rotate_left
   . simp only[go_sem,Cf,Ci,BY,Nt.cs,Ab,IG,C6,Ii,Mo,hz0,c1];rw[Dt (λ hp=>by have:=Jr.1 hp;simp at c1;omega)]
   cases c2:decide ((bl.length:Int)<=y);rotate_left
   . simp only[go_sem,Cf,Ci,BY,Nt.cs,Ab,IG,C6,Ii,Mo,hz0,c1,c2];rw[Dt (λ hp=>by have:=Jr.1 hp;simp at c2;omega)]
   cases c3:decide (y=(i:Int));rotate_left
   . simp only[go_sem,Cf,Ci,BY,Nt.cs,Ab,IG,C6,Ii,Mo,hz0,c1,c2,c3];rw[Dt (λ hp=>by have:=Jr.1 hp;simp at c3;omega)]
   simp only[go_sem,Cf,Ci,BY,Nt.cs,Ab,IG,C6,Ii,Mo,hz0,c1,c2,c3,hwz];refine Hw (0+1) _ ⟨J6,Ur (Jr.2 (by simp at c1 c2 c3;exact ⟨by omega,by omega,c3,λ h=>absurd h (Nat.lt_irrefl _)⟩))⟩ (by omega) ?_
   (refine BW ?_;simp[ZF,Nt.cs];done)
 . have hmt:m<r.length:=by omega
   have hgm:=Cm r m hmt;have hm0:(0:Int)<=(m:Int)/\(m:Int)<(r.length:Int):=by omega
   have hwp:=HZ m (by omega);have hkp:(0:Int)<((m+1:Nat):Int):=by omega
   rw[show m+1 - 1=m from rfl] at Jr;generalize r.getD (m+1) 0=y at Mo Jr;generalize r.getD m 0=z at hgm Jr;cases c1:decide (y<0);rotate_left
   . simp only[go_sem,Cf,Ci,BY,Nt.cs,Ab,IG,C6,Ii,Mo,Hn,c1];rw[Dt (λ hp=>by have:=Jr.1 hp;simp at c1;omega)]
   cases c2:decide ((bl.length:Int)<=y);rotate_left
   . simp only[go_sem,Cf,Ci,BY,Nt.cs,Ab,IG,C6,Ii,Mo,Hn,c1,c2];rw[Dt (λ hp=>by have:=Jr.1 hp;simp at c2;omega)]
   cases c3:decide (y=(i:Int));rotate_left
   . simp only[go_sem,Cf,Ci,BY,Nt.cs,Ab,IG,C6,Ii,Mo,Hn,c1,c2,c3];rw[Dt (λ hp=>by have:=Jr.1 hp;simp at c3;omega)]
   cases c4:decide (y<=z);rotate_left
   . simp only[go_sem,Cf,Ci,BY,Nt.cs,Ab,IG,C6,Ii,Mo,Hn,hgm,hm0,hwp,hkp,c1,c2,c3,c4];rw[Dt (λ hp=>by have:=(Jr.1 hp).2.2.2 (by omega);simp at c4;omega)]
   simp only[go_sem,Cf,Ci,BY,Nt.cs,Ab,IG,C6,Ii,Mo,Hn,hgm,hm0,hwp,hkp,c1,c2,c3,c4,GO];refine Hw (m+1+1) _ ⟨J6,Ur (Jr.2 (by simp at c1 c2 c3 c4;exact ⟨by omega,by omega,c3,λ _=>by omega⟩))⟩ (by omega) ?_
   (refine BW ?_;simp[ZF,Nt.cs];done)
def Ds(n:Nt):List (List UInt8):=n.blocks.map Et.name++n.spurs.map Da.name
def IK(n:Nt):Prop:=∀i,i<(Ds n).length->C3 ((Ds n).getD i [])=true/\∀k,k<i->(Ds n).getD i []≠(Ds n).getD k []
instance (n:Nt):Decidable (IK n):=by unfold IK;exact inferInstance
theorem OH{α β:Type}(f:α->β)(l:List α)(i:Nat)(x:α)(h:i<l.length):(l.take (i+1)).map f=(l.take i).map f++[f (l.getD i x)]:=by
 rw[BP,Bg,List.getD,Az h];rfl
theorem Ale(n:Nt)(hb:n.blocks.length<=10000000)(hs:n.spurs.length<=10000000):B2 prog 84 [.agg n.cs] [] λ h r=>h=[]/\r= .p (.bool (decide (IK n))):=by
 generalize hL:Ds n=L;have hLl:L.length=n.blocks.length+n.spurs.length:=by rw[<-hL];simp[Ds]
 refine B1 func84 rfl An5 (by simp[Tryz.f84]) ?_;simp only[go_sem,Nt.cs];refine B7 (λ i:Nat=>⟨[(1,.ptr 1 0),(3,.ref 23 0 i i),(4,.p (.int .i64 (i:Nat)))],[(1,.box (Nt.cs n)),(23,.arr 9 1 (CB ((n.blocks.take i).map Et.name)))],66⟩) (λ i=>i<=n.blocks.length) (λ i=>n.blocks.length - i) 0 (AE _) ((Wk.nil (t:=3) (q:=23) (sz:=1) 9 rfl rfl (by decide)).trans (BW (by simp[ZF,Nt.cs,CB]))) ?_;rintro i m hi ih;have hll:(CB ((n.blocks.take i).map Et.name)).length=i:=by rw[B5];simp;omega
 simp only[go_sem,Nt.cs,Ci];refine Cy (λ h2=>?_) (λ h2=>?_)
 . have Cv:i<n.blocks.length:=by simp at h2;omega
   have hw:=Cd i (by omega);have hgb:=JU n.blocks i Cv;have C6:(0:Int)<=(i:Int)/\(i:Int)<(n.blocks.length:Int):=by omega
   simp only[go_sem,Ci,Nt.cs,Ab,hgb,C6,hll];refine ⟨⟨Dy _ _ rfl,by omega⟩,?_⟩;simp only[go_sem,hw];refine ih (i+1) _ Cv (by omega) ?_
   (refine BW ?_;simp[ZF,Nt.cs,OH Et.name n.blocks i FR Cv,DG,hll,-List.map_take];done)
 have:i=n.blocks.length:=by simp at h2;omega
 subst this;clear ih hll;simp only[go_sem];refine B7 (λ i:Nat=>⟨[(1,.ptr 1 0),(3,.ref 23 0 (n.blocks.length+i) (n.blocks.length+i)),(5,.p (.int .i64 (i:Nat)))],[(1,.box (Nt.cs n)),(23,.arr 9 1 (CB (n.blocks.map Et.name++(n.spurs.take i).map Da.name)))],66⟩) (λ i=>i<=n.spurs.length) (λ i=>n.spurs.length - i) 0 (AE _) (BW (by simp[ZF,Nt.cs,CB])) ?_;rintro i m2 Ea ih;have hll:(CB (n.blocks.map Et.name++(n.spurs.take i).map Da.name)).length=n.blocks.length+i:=by rw[B5];simp;omega
 simp only[go_sem,Nt.cs,Cg];refine Cy (λ h2=>?_) (λ h2=>?_)
 . have Cv:i<n.spurs.length:=by simp at h2;omega
   have hw:=Cd i (by omega);have hgb:=EB n.spurs i Cv;have C6:(0:Int)<=(i:Int)/\(i:Int)<(n.spurs.length:Int):=by omega
   simp only[go_sem,Cg,Nt.cs,Ab,hgb,C6,hll];refine ⟨⟨Dy _ _ rfl,by omega⟩,?_⟩;simp only[go_sem,hw];refine ih (i+1) _ Cv (by omega) ?_
   (refine BW ?_;simp[ZF,Nt.cs,OH Da.name n.spurs i Cu Cv,DG,<-List.append_assoc,Nat.add_assoc,hll,-List.map_take];done)
 have:i=n.spurs.length:=by simp at h2;omega
 subst this;clear ih hll;rw[Ar,show n.blocks.map Et.name++n.spurs.map Da.name=L from hL,<-hLl];simp only[go_sem];have hP:IK n↔∀i,i<L.length->C3 (L.getD i [])=true/\∀k,k<i->L.getD i []≠L.getD k []:=by unfold IK;rw[hL]
 refine B7 (λ i:Nat=>⟨[(3,.ref 23 0 L.length L.length),(6,.p (.int .i64 (i:Nat)))],[(23,.arr 9 1 (CB L))],66⟩) (λ i=>i<=L.length/\∀j,j<i->C3 (L.getD j [])=true/\∀k,k<j->L.getD j []≠L.getD k []) (λ i=>L.length - i) 0 ⟨AE _,λ j hj=>absurd hj (A0 _)⟩ (BW (by simp[ZF,Nt.cs,CB])) ?_;rintro i m3 ⟨hi3,DD⟩ ih;simp only[go_sem,B5];refine Cy (λ h3=>?_) (λ h3=>?_);rotate_left
 . simp only[go_sem];have:i=L.length:=by simp at h3;omega
   subst this;rw[Ag (hP.2 DD)];try simp
 have Cv:i<L.length:=by simp at h3;omega
 have hw:=Cd i (by omega);have IG:=DH L i Cv;have C6:(0:Int)<=(i:Int)/\(i:Int)<(L.length:Int):=by omega
 simp only[go_sem,B5,Ab,IG,C6];refine Cq ((Qh _)) ?_;cases hn:C3 (L.getD i [])
 . simp only[go_sem,hn];rw[Ah (λ hp=>by have:=(hP.1 hp i Cv).1;rw[hn] at this;cases this)];try simp
 simp only[go_sem,hn];refine B7 (λ k:Nat=>⟨[(3,.ref 23 0 L.length L.length),(6,.p (.int .i64 (i:Nat))),(7,.p (.int .i64 (k:Nat)))],[(23,.arr 9 1 (CB L))],66⟩) (λ k=>k<=i/\∀j,j<k->L.getD i []≠L.getD j []) (λ k=>i - k) 0 ⟨AE _,λ j hj=>absurd hj (A0 _)⟩ (BW (by simp[ZF,CB])) ?_;rintro k m4 ⟨hk,Dt⟩ Hw;simp only[go_sem];refine Cy (λ h4=>?_) (λ h4=>?_)
 . have J6:k<i:=by simp at h4;omega
   have GO:=Cd k (by omega);have Mo:=DH L k (by omega);have Hn:(0:Int)<=(k:Int)/\(k:Int)<(L.length:Int):=by omega
   simp only[go_sem];refine Dp [(23,.arr 9 1 (CB L))] mixed (p:=[(0,0),(1,0),(2,0),(3,0),(4,0),(5,0),(6,0),(7,0),(8,0)]) (by kernel_rfl) (by simp[C8,get]) ?_;simp only[go_sem,B5,Ab,IG,C6,Mo,Hn];cases he:decide (L.getD i []=L.getD k [])
   . simp only[go_sem,he,GO];refine Hw (k+1) _ ⟨J6,λ j hj=>?_⟩ (by omega) ?_
     . rcases AF.1 hj with h5 | rfl
       . exact Dt j h5
       . exact Ae he
     . (refine BW ?_;simp[ZF];done)
   . simp only[go_sem,he];rw[Ah (λ hp=>(hP.1 hp i Cv).2 k J6 (Ad he))];try simp
 . have:k=i:=by simp at h4;omega
   subst this;simp only[go_sem,hw];refine ih (k+1) _ ⟨Cv,λ j hj=>?_⟩ (by omega) ?_
   . rcases AF.1 hj with h5 | rfl
     . exact DD j h5
     . exact ⟨hn,Dt⟩
   . (refine BW ?_;simp[ZF];done)
def IV(cq ca cd cp:Int):Prop:=1<=cq/\cq<=8/\0<=ca/\ca<=4/\0<=cd/\cd<=3/\1<=cp/\cp<=16
instance (cq ca cd cp:Int):Decidable (IV cq ca cd cp):=by unfold IV;exact inferInstance
theorem We(cq ca cd cp:Int):B2 prog 85 [.agg [.p (.int .i64 cq),.p (.int .i64 ca),.p (.int .i64 cd),.p (.int .i64 cp)]] [] λ h r=>h=[]/\r= .p (.bool (decide (IV cq ca cd cp))):=by
 refine B1 func85 rfl o4 (by simp[Tryz.f85]) ?_;by_cases h1:1<=cq;rotate_left
 . simp only[go_sem,h1];simp[IV,h1]
 by_cases h2:cq<=8;rotate_left
 . simp only[go_sem,h1,h2];simp[IV,h2]
 by_cases h3:0<=ca;rotate_left
 . simp only[go_sem,h1,h2,h3];simp[IV,h3]
 by_cases h4:ca<=4;rotate_left
 . simp only[go_sem,h1,h2,h3,h4];simp[IV,h4]
 by_cases h5:0<=cd;rotate_left
 . simp only[go_sem,h1,h2,h3,h4,h5];simp[IV,h5]
 by_cases h6:cd<=3;rotate_left
 . simp only[go_sem,h1,h2,h3,h4,h5,h6];simp[IV,h6]
 by_cases h7:1<=cp;rotate_left
 . simp only[go_sem,h1,h2,h3,h4,h5,h6,h7];simp[IV,h7]
 by_cases h8:cp<=16
 . simp only[go_sem,h1,h2,h3,h4,h5,h6,h7,h8];simp[IV,h1,h2,h3,h4,h5,h6,h7,h8]
 . simp only[go_sem,h1,h2,h3,h4,h5,h6,h7,h8];simp[IV,h8]
theorem G0(l:List Bool):(CO l).length=l.length:=by simp[CO]
theorem D7{α:Type}(l:List α)(i j:Nat)(x y:α):(l.set i x).getD j y=if i=j/\i<l.length then x else l.getD j y:=by
 simp only[List.getD,BR];by_cases h:i=j
 . subst h;by_cases h2:i<l.length
   . simp[h2]
   . simp[h2]
 . simp[h]
def KH(g:List (List Int))(sh:List Bool)(d:Int)(v:Nat)(o:List Int):List Int:=
 if sh.getD v false=true∨0<=o.getD v 0 then o else if (g.getD v []).any (λ w=>decide (o.getD w.toNat 0=d - 1))=true then o.set v d else o
def Jz(g:List (List Int))(sh:List Bool)(d:Int):Nat->Nat->List Int->List Int
 | 0,_,o=>o
 | f+1,v,o=>Jz g sh d f (v+1) (KH g sh d v o)
def Kh(g:List (List Int))(sh:List Bool):Nat->Nat->List Int->List Int
 | 0,_,o=>o
 | f+1,d,o=>Kh g sh f (d+1) (Jz g sh d g.length 0 o)
def Dz(g:List (List Int))(sh:List Bool)(goal:Nat):List Int:=
 if sh.getD goal false=true then List.replicate g.length (-1) else Kh g sh (g.length - 1) 1 ((List.replicate g.length (-1)).set goal 0)
theorem Aek(g:List (List Int))(sh:List Bool)(d:Int)(v:Nat)(o:List Int):(KH g sh d v o).length=o.length:=by
 unfold KH;split
 . rfl
 . split<;>simp
theorem Wn(g:List (List Int))(sh:List Bool)(d:Int):∀(f v:Nat) (o:List Int),(Jz g sh d f v o).length=o.length
 | 0,_,_=>rfl
 | f+1,v,o=>by rw[Jz,Wn g sh d f,Aek]
theorem Xu(g:List (List Int))(sh:List Bool):∀(f d:Nat) (o:List Int),(Kh g sh f d o).length=o.length
 | 0,_,_=>rfl
 | f+1,d,o=>by rw[Kh,Xu g sh f,Wn]
theorem Lq(g:List (List Int))(sh:List Bool)(goal:Nat):(Dz g sh goal).length=g.length:=by
 unfold Dz;split
 . simp
 . rw[Xu];simp
def DP(g:List (List Int))(goal:Nat)(m:Int)(o:List Int):Prop:=
 o.length=g.length/\∀v,v<g.length->o.getD v 0=-1∨(o.getD v 0=0/\v=goal)∨(1<=o.getD v 0/\o.getD v 0<=m/\∃w∈g.getD v [],o.getD w.toNat 0=o.getD v 0 - 1)
theorem Zd{g:List (List Int)}(hg:DV g){sh:List Bool}{goal:Nat}{d:Int}{v:Nat}{o:List Int}(hv:v<g.length)(hd:1<=d)(h:DP g goal d o):DP g goal d (KH g sh d v o):=by
 unfold KH;split
 . exact h
 rename_i h1;split
 . rename_i h2;obtain ⟨hl,hh⟩:=h;have Art:o.getD v 0<0:=by
     rcases Int.lt_or_le (o.getD v 0) 0 with h3 | h3
     . exact h3
     . exact absurd (Or.inr h3) h1
   refine ⟨by simpa using hl,λ u hu=>?_⟩;rw[AV] at h2;obtain ⟨w,hw,hwd⟩:=h2;have hwd:=Ad hwd;have E2:∀j,j<g.length->(o.set v d).getD j 0=if v=j then d else o.getD j 0:=λ j hj=>by
     rw[D7];by_cases e:v=j
     . rw[if_pos ⟨e,by omega⟩,if_pos e]
     . rw[if_neg (λ h=>e h.1),if_neg e]
   have N9:∀u,u<g.length->∀w∈g.getD u [],0<=w/\w<(g.length:Int)/\w≠(u:Int):=λ u hu w hw=>by
     obtain ⟨k,hk,rfl⟩:=AD.1 hw;have:=hg.2 u hu k hk;unfold JK at this;have e1:(g.getD u []).getD k 0=(g.getD u [])[k]:=getD_eq hk;rw[e1] at this;exact ⟨this.1,this.2.1,this.2.2.1⟩
   rw[E2 u hu];by_cases e:v=u
   . subst e;rw[if_pos rfl];have h3:=N9 v hv w hw;refine .inr (.inr ⟨hd,Bx _,w,hw,?_⟩);rw[E2 _ (by omega),if_neg (by omega)];exact hwd
   . rw[if_neg e];rcases hh u hu with h3 | h3 | ⟨h3,h4,w2,h5,h6⟩
     . exact .inl h3
     . exact .inr (.inl h3)
     . refine .inr (.inr ⟨h3,h4,w2,h5,?_⟩);have h7:=N9 u hu w2 h5;rw[E2 _ (by omega)];by_cases e2:v=w2.toNat
       . rw[e2] at Art;omega
       . rw[if_neg e2];exact h6
 . exact h
theorem TB{g:List (List Int)}(hg:DV g){sh:List Bool}{goal:Nat}{d:Int}(hd:1<=d):∀(f v:Nat) (o:List Int),v+f<=g.length->DP g goal d o->DP g goal d (Jz g sh d f v o)
 | 0,_,_,_,h=>h
 | f+1,v,o,hv,h=>TB hg hd f (v+1) _ (by omega) (Zd hg (by omega) hd h)
theorem DP.mono{g:List (List Int)}{goal:Nat}{m m':Int}{o:List Int}(hm:m<=m')(h:DP g goal m o):DP g goal m' o:=
 ⟨h.1,λ v hv=>by
   rcases h.2 v hv with h3 | h3 | ⟨h3,h4,h5⟩
   . exact .inl h3
   . exact .inr (.inl h3)
   . exact .inr (.inr ⟨h3,by omega,h5⟩)⟩
theorem u9{g:List (List Int)}(hg:DV g){sh:List Bool}{goal:Nat}:∀(f d:Nat) (o:List Int),1<=d->DP g goal d o->DP g goal (d+f:Nat) (Kh g sh f d o)
 | 0,d,o,_,h=>h.mono (by omega)
 | f+1,d,o,hd,h=>by
   have:=u9 (sh:=sh) hg f (d+1) (Jz g sh d g.length 0 o) (by omega) ((TB hg (by omega) g.length 0 o (by omega) h).mono (by omega));rw[show d+1+f=d+(f+1) by omega] at this;exact this
theorem r9{g:List (List Int)}(hg:DV g)(sh:List Bool)(goal:Nat)(El:goal<g.length):DP g goal 24 (Dz g sh goal):=by
 have Agf:∀v,v<g.length->(List.replicate g.length (-1:Int)).getD v 0=-1:=λ v hv=>by simp[List.getD,hv]
 unfold Dz;split
 . exact ⟨by simp,λ v hv=> .inl (Agf v hv)⟩
 . refine (u9 hg (g.length - 1) 1 _ (Ai _) ⟨by simp,λ v hv=>?_⟩).mono (by have:=hg.1;omega);rw[D7];by_cases e:goal=v
   . rw[if_pos ⟨e,by simpa using El⟩];exact .inr (.inl ⟨rfl,e.symm⟩)
   . rw[if_neg (λ h=>e h.1)];exact .inl (Agf v hv)
theorem TQ{g:List (List Int)}(hg:DV g){u:Nat}(hu:u<g.length){k:Nat}(hk:k<(g.getD u []).length):∃w:Nat,(g.getD u []).getD k 0=(w:Int)/\w<g.length/\w≠u:=by
 have:=hg.2 u hu k hk;unfold JK at this;exact ⟨((g.getD u []).getD k 0).toNat,by omega,by omega,by omega⟩
def Di:List Da->Int
 | []=>0
 | s::r=>s.Cs+Di r
theorem D9(l:List Da)(s:Da):Di (l++[s])=Di l+s.Cs:=by
 induction l with
 | nil=>simp[Di]
 | cons x r ih=>simp only[A6,Di,ih];omega
def Mh(nb:Nat)(b:Int)(s:Da):Prop:=0<=s.HL/\s.HL<(nb:Int)/\0<=s.out/\s.out<(nb:Int)/\1<=s.Cs/\s.Cs<=4/\s.base=b
instance (nb:Nat) (b:Int) (s:Da):Decidable (Mh nb b s):=by unfold Mh;exact inferInstance
def Mu(x:Int)(s:Da):Bool:=s.CE&&(decide (s.base<=x)&&decide (x<s.base+s.Cs))
def EE(nb:Nat)(l:List Da):Prop:=∀i,i<l.length->Mh nb (nb+Di (l.take i)) (l.getD i Cu)
instance (nb:Nat) (l:List Da):Decidable (EE nb l):=by unfold EE;exact inferInstance
def ER(sp:List Da)(l:List Int):Prop:=∀i,i<l.length->sp.any (Mu (l.getD i 0))=true/\l.getD i 0∉l.take i
instance (sp:List Da) (l:List Int):Decidable (ER sp l):=by unfold ER;exact inferInstance
def validN(n:Nt):Prop:=Jh n/\n.spurs.length<=6/\IK n/\n.B6.length<=8/\IV n.cq n.ca n.cd n.cp/\EE n.blocks.length n.spurs/\ER n.spurs n.B6/\0<(n.spurs.filter Da.CE).length
instance (n:Nt):Decidable (validN n):=by unfold validN;exact inferInstance
theorem Io(nb:Nat)(l:List Da)(k:Nat)(hk:k<=l.length)(h:∀j,j<k->Mh nb (nb+Di (l.take j)) (l.getD j Cu)):0<=Di (l.take k)/\Di (l.take k)<=4*k:=by
 induction k with
 | zero=>simp[Di]
 | succ k ih=>
   have h1:=ih (by omega) (λ j hj=>h j (by omega));have h2:=h k (by omega);rw[CI l k Cu (by omega),D9];obtain ⟨_,_,_,_,h5,h6,_⟩:=h2;omega
def F3(n:Nt):Prop:=n.blocks.length<=10000000/\Ri n.next/\n.spurs.length<=10000000/\n.B6.length<=10000000
theorem NT(n:Nt)(Yi:F3 n):B2 prog 46 [.agg n.cs] [] λ h r=>h=[]/\r= .p (.bool (decide (validN n))):=by
 have hB:=Aj1 n Yi.1 Yi.2.1;have hN:=Ale n Yi.1 Yi.2.2.1;have hC:=We n.cq n.ca n.cd n.cp;obtain ⟨_,_,Lw,HJ⟩:=Yi;refine B1 func46 rfl Anx (by simp[Tryz.f46]) ?_;simp only[go_sem,Nt.cs];refine Cq ((hB)) ?_;cases d1:decide (Jh n)
 . simp only[go_sem,d1];rw[Ah (λ hp=>Ae d1 hp.1)]
 cases d2:decide (6<(n.spurs.length:Int));rotate_left
 . simp only[go_sem,Nt.cs,Cg,d1,d2];rw[Ah (λ hp=>by have:=hp.2.1;have:=Ad d2;omega)]
 simp only[go_sem,Nt.cs,Cg,d1,d2];refine Cq ((hN)) ?_;cases d3:decide (IK n)
 . simp only[go_sem,d3];rw[Ah (λ hp=>Ae d3 hp.2.2.1)]
 cases d4:decide (8<(n.B6.length:Int));rotate_left
 . simp only[go_sem,Nt.cs,BY,d3,d4];rw[Ah (λ hp=>by have:=hp.2.2.2.1;have:=Ad d4;omega)]
 simp only[go_sem,Nt.cs,BY,d3,d4];refine Cq ((hC)) ?_;cases d5:decide (IV n.cq n.ca n.cd n.cp)
 . simp only[go_sem,d5];rw[Ah (λ hp=>Ae d5 hp.2.2.2.2.1)]
 simp only[go_sem,Nt.cs,Ci,d5];clear hB hN hC;have e1:=Ad d1;have e2:=Ae d2;have e3:=Ad d3;have e4:=Ae d4;have e5:=Ad d5;clear d1 d2 d3 d4 d5;have Ac8:n.blocks.length<=24:=e1.2.1;refine B7 (λ i:Nat=>⟨[(1,.ptr 1 0),(3,.p (.int .i64 ((n.blocks.length:Int)+Di (n.spurs.take i)))),(4,.p (.int .i64 (((n.spurs.take i).filter Da.CE).length:Nat))),(5,.p (.int .i64 (i:Nat)))],[(1,.box (Nt.cs n))],163⟩)
   (λ i=>i<=n.spurs.length/\∀j,j<i->Mh n.blocks.length (n.blocks.length+Di (n.spurs.take j)) (n.spurs.getD j Cu)) (λ i=>n.spurs.length - i) 0 ⟨AE _,λ j hj=>absurd hj (A0 _)⟩ (BW (by simp[ZF,Nt.cs,Di])) ?_
 rintro i m ⟨hi,DD⟩ ih;simp only[go_sem,Nt.cs,Cg];refine Cy (λ h2=>?_) (λ h2=>?_)
 . have Cv:i<n.spurs.length:=by simp at h2;omega
   have hw:=Cd i (by omega);have hg:=EB n.spurs i Cv;have C6:(0:Int)<=(i:Int)/\(i:Int)<(n.spurs.length:Int):=by omega
   have j3:=Io n.blocks.length n.spurs i hi DD;have Kf:¬Mh n.blocks.length (n.blocks.length+Di (n.spurs.take i)) (n.spurs.getD i Cu)->decide (validN n)=false:=λ h=>Ah (λ hp=>h (hp.2.2.2.2.2.1 i Cv));have OO:Mh n.blocks.length (n.blocks.length+Di (n.spurs.take i)) (n.spurs.getD i Cu)->∀j,j<i+1->Mh n.blocks.length (n.blocks.length+Di (n.spurs.take j)) (n.spurs.getD j Cu):=λ h j hj=>by
     rcases AF.1 hj with h3 | rfl
     . exact DD j h3
     . exact h
   have Q6:=CI n.spurs i Cu Cv;have QA:((n.spurs.take i).filter Da.CE).length<=i:=by
     refine Bp (List.length_filter_le _ _) ?_;simp;omega
   generalize n.spurs.getD i Cu=s at*;obtain ⟨nm,dp,HL,out,sl,bs⟩:=s;simp only[Mh] at Kf OO;generalize hS:Di (n.spurs.take i)=S at*;generalize hD:((n.spurs.take i).filter Da.CE).length=dn at*;cases c1:decide (HL<0);rotate_left
   . simp only[go_sem,Nt.cs,Cg,Ci,Ab,hg,C6,c1];rw[Kf (λ hp=>by have:=Ad c1;omega)]
   cases c2:decide ((n.blocks.length:Int)<=HL);rotate_left
   . simp only[go_sem,Nt.cs,Cg,Ci,Ab,hg,C6,c1,c2];rw[Kf (λ hp=>by have:=Ad c2;omega)]
   cases c3:decide (out<0);rotate_left
   . simp only[go_sem,Nt.cs,Cg,Ci,Ab,hg,C6,c1,c2,c3];rw[Kf (λ hp=>by have:=Ad c3;omega)]
   cases c4:decide ((n.blocks.length:Int)<=out);rotate_left
   . simp only[go_sem,Nt.cs,Cg,Ci,Ab,hg,C6,c1,c2,c3,c4];rw[Kf (λ hp=>by have:=Ad c4;omega)]
   cases c5:decide (sl<1);rotate_left
   . simp only[go_sem,Nt.cs,Cg,Ci,Ab,hg,C6,c1,c2,c3,c4,c5];rw[Kf (λ hp=>by have:=Ad c5;omega)]
   cases c6:decide (4<sl);rotate_left
   . simp only[go_sem,Nt.cs,Cg,Ci,Ab,hg,C6,c1,c2,c3,c4,c5,c6];rw[Kf (λ hp=>by have:=Ad c6;omega)]
   cases c7:decide (bs=(n.blocks.length:Int)+S)
   . simp only[go_sem,Nt.cs,Cg,Ci,Ab,hg,C6,c1,c2,c3,c4,c5,c6,c7];rw[Kf (λ hp=>by have:=Ae c7;omega)]
   have hsl:1<=sl/\sl<=4:=by have:=Ae c5;have:=Ae c6;omega
   have YZ:IntKind.i64.wrap ((n.blocks.length:Int)+S+sl)=(n.blocks.length:Int)+S+sl:=by rw[B3]<;>omega
   have Qx:=OO (by have:=Ae c1;have:=Ae c2;have:=Ae c3;have:=Ae c4;have:=Ad c7;omega);have hwd:=Cd dn (by omega);cases dp
   . simp only[go_sem,Nt.cs,Cg,Ci,Ab,hg,C6,c1,c2,c3,c4,c5,c6,c7,YZ,hw];refine ih (i+1) _ ⟨Cv,Qx⟩ (by omega) ?_
     (refine BW ?_;simp[ZF,Nt.cs,Q6,D9,hS,hD,Int.add_assoc];done)
   . simp only[go_sem,Nt.cs,Cg,Ci,Ab,hg,C6,c1,c2,c3,c4,c5,c6,c7,YZ,hw,hwd];refine ih (i+1) _ ⟨Cv,Qx⟩ (by omega) ?_
     (refine BW ?_;simp[ZF,Nt.cs,Q6,D9,hS,hD,Int.add_assoc];done)
 have:i=n.spurs.length:=by simp at h2;omega
 subst this;have H8:EE n.blocks.length n.spurs:=DD;rw[Ar];have Avj:∀k,k<n.spurs.length->0<=(n.spurs.getD k Cu).base/\(n.spurs.getD k Cu).base<=1000/\1<=(n.spurs.getD k Cu).Cs/\(n.spurs.getD k Cu).Cs<=4:=λ k hk=>by
   have h3:=H8 k hk;have h4:=Io n.blocks.length n.spurs k (by omega) (λ j hj=>H8 j (by omega));obtain ⟨_,_,_,_,h5,h6,h7⟩:=h3;omega
 clear ih DD;generalize hD:(n.spurs.filter Da.CE).length=dn;simp only[go_sem];refine B7 (λ i:Nat=>⟨[(1,.ptr 1 0),(4,.p (.int .i64 (dn:Nat))),(7,.p (.int .i64 (i:Nat)))],[(1,.box (Nt.cs n))],163⟩)
   (λ i=>i<=n.B6.length/\∀j,j<i->n.spurs.any (Mu (n.B6.getD j 0))=true/\n.B6.getD j 0∉n.B6.take j) (λ i=>n.B6.length - i) 0 ⟨AE _,λ j hj=>absurd hj (A0 _)⟩ (BW (by simp[ZF,Nt.cs])) ?_
 rintro i m2 ⟨Ea,DD⟩ ih;simp only[go_sem,Nt.cs,BY];refine Cy (λ h3=>?_) (λ h3=>?_);rotate_left
 . simp only[go_sem];have:i=n.B6.length:=by simp at h3;omega
   subst this;have hv:decide (validN n)=decide (0<(dn:Int)):=by
     by_cases hdn:0<dn
     . rw[Ag (show validN n from ⟨e1,by omega,e3,by omega,e5,H8,DD,by rw[hD];exact hdn⟩),Ag (by omega)]
     . rw[Ah (λ hp:validN n=>hdn (by have:=hp.2.2.2.2.2.2.2;rw[hD] at this;exact this)),Ah (by omega)]
   rw[hv];try simp
 have Cv:i<n.B6.length:=by simp at h3;omega
 have hw:=Cd i (by omega);have hgr:=Cm n.B6 i Cv;have C6:(0:Int)<=(i:Int)/\(i:Int)<(n.B6.length:Int):=by omega
 have Kf:¬(n.spurs.any (Mu (n.B6.getD i 0))=true/\n.B6.getD i 0∉n.B6.take i)->decide (validN n)=false:=λ h=>Ah (λ hp=>h (hp.2.2.2.2.2.2.1 i Cv));have OO:(n.spurs.any (Mu (n.B6.getD i 0))=true/\n.B6.getD i 0∉n.B6.take i)->∀j,j<i+1->n.spurs.any (Mu (n.B6.getD j 0))=true/\n.B6.getD j 0∉n.B6.take j:=λ h j hj=>by
   rcases AF.1 hj with h3 | rfl
   . exact DD j h3
   . exact h
 generalize n.B6.getD i 0=x at hgr Kf OO;simp only[go_sem];refine B7 (λ k:Nat=>⟨[(1,.ptr 1 0),(4,.p (.int .i64 (dn:Nat))),(7,.p (.int .i64 (i:Nat))),(8,.p (.bool ((n.spurs.take k).any (Mu x)))),(9,.p (.int .i64 (k:Nat)))],[(1,.box (Nt.cs n))],163⟩)
   (λ k=>k<=n.spurs.length) (λ k=>n.spurs.length - k) 0 (AE _) (BW (by simp[ZF,Nt.cs])) ?_
 rintro k m3 hk Hw;simp only[go_sem,Nt.cs,Cg];refine Cy (λ h4=>?_) (λ h4=>?_)
 . have J6:k<n.spurs.length:=by simp at h4;omega
   have GO:=Cd k (by omega);have Mo:=EB n.spurs k J6;have Hn:(0:Int)<=(k:Int)/\(k:Int)<(n.spurs.length:Int):=by omega
   have hb:=Avj k J6;have Q6:=CI n.spurs k Cu J6;generalize n.spurs.getD k Cu=s at*;obtain ⟨nm,dp,HL,out,sl,bs⟩:=s;simp only at hb;have YZ:IntKind.i64.wrap (bs+sl)=bs+sl:=by rw[B3]<;>omega
   have han:(n.spurs.take (k+1)).any (Mu x)=((n.spurs.take k).any (Mu x)||(dp&&(decide (bs<=x)&&decide (x<bs+sl)))):=by
     rw[Q6,List.any_append];simp[Mu]
   generalize (n.spurs.take k).any (Mu x)=ok at*;simp only[go_sem,Nt.cs,Cg,Ab,Mo,Hn];refine CG mixed (p:=[(0,0),(1,0),(2,0),(3,0),(4,0),(5,0),(6,0),(7,0),(8,0),(9,0),(10,0),(11,0),(12,0),(13,0),(14,0),(15,0),(16,0),(17,0),(18,0),(19,0),(20,0),(21,0),(22,0),(23,0),(24,0),(25,0),(26,0),(27,0),(28,0)]) (by kernel_rfl) (by simp[C8,get]) ?_;cases ok;rotate_left
   . simp only[go_sem,Nt.cs,GO];refine Hw (k+1) _ J6 (by omega) ?_
     (refine BW ?_;simp[ZF,Nt.cs,han];done)
   cases dp
   . simp only[go_sem,Nt.cs,GO];refine Hw (k+1) _ J6 (by omega) ?_
     (refine BW ?_;simp[ZF,Nt.cs,han];done)
   cases c1:decide (bs<=x)
   . simp only[go_sem,Nt.cs,BY,Ab,hgr,C6,c1,GO];refine Hw (k+1) _ J6 (by omega) ?_
     (refine BW ?_;simp[ZF,Nt.cs,han,c1];done)
   cases c2:decide (x<bs+sl)
   . simp only[go_sem,Nt.cs,BY,Ab,hgr,C6,c1,YZ,c2,GO];refine Hw (k+1) _ J6 (by omega) ?_
     (refine BW ?_;simp[ZF,Nt.cs,han,c1,c2];done)
   . simp only[go_sem,Nt.cs,BY,Ab,hgr,C6,c1,YZ,c2,GO];refine Hw (k+1) _ J6 (by omega) ?_
     (refine BW ?_;simp[ZF,Nt.cs,han,c1,c2];done)
 have:k=n.spurs.length:=by simp at h4;omega
 subst this;rw[Ar];simp only[go_sem];refine CG mixed (p:=[(0,0),(1,0),(2,0),(3,0),(4,0),(5,0),(6,0),(7,0),(8,0),(9,0),(10,0),(11,0),(12,2),(13,0)]) (by kernel_rfl) (by simp[C8,get]) ?_;cases ho:n.spurs.any (Mu x)
 . simp only[go_sem,ho];rw[Kf (λ hp=>by rw[ho] at hp;cases hp.1)]
 simp only[go_sem,Nt.cs,BY,Ab,hgr,C6,ho,L2];refine ⟨⟨by omega,by simp[Ka,BZ]⟩,?_⟩;refine Gq ((Np (n.B6.take i) x (by simp;omega))) ?_;cases hh:decide (x∈n.B6.take i)
 . simp only[go_sem,hh,hw];refine ih (i+1) _ ⟨Cv,OO ⟨ho,Ae hh⟩⟩ (by omega) ?_
   (refine BW ?_;simp[ZF,Nt.cs];done)
 . simp only[go_sem,hh];rw[Kf (λ hp=>hp.2 (Ad hh))]
theorem any_take_succ{α:Type}(p:α->Bool)(l:List α)(k:Nat)(x:α)(h:k<l.length):(l.take (k+1)).any p=((l.take k).any p||p (l.getD k x)):=by
 rw[CI l k x h,List.any_append];simp
theorem Ll(l:List Int)(i:Nat):((BZ l)[i]?.getD []).tail=[]:=by
 unfold BZ;rw[AS];cases l[i]?<;>rfl
theorem Ts(g:List (List Int))(sh:List Bool)(goal:Nat)(hg:DV g)(H9:sh.length=g.length)(El:goal<g.length):
   B2 prog 123 [.p (.sl (Cj g)),.p (.sl (CO sh)),.p (.int .i64 (goal:Nat))] [] λ h r=>h=[]/\r= .p (.sl (BZ (Dz g sh goal))):=by
 have hlen:=hg.1;refine B1 func123 rfl Ahl (by simp[Tryz.f123]) ?_;simp only[go_sem,Cf];refine ⟨by omega,?_⟩;refine B7 (λ q:Nat×List Int=>⟨[(0,.p (.sl (Cj g))),(1,.p (.sl (CO sh))),(2,.p (.int .i64 (goal:Nat))),(7,.ref 14 0 g.length g.length),(8,.p (.int .i64 (q.1:Nat)))],[(14,.arr 3 1 (BZ q.2))],82⟩)
   (λ q=>q.1<=g.length/\q.2.length=g.length/\∀j,j<q.1->q.2.getD j 0=-1) (λ q=>g.length - q.1) (0,List.replicate g.length 0) ⟨AE _,by simp,λ j hj=>absurd hj (A0 _)⟩ (BW (by simp[ZF,BZ])) ?_
 rintro ⟨i,o⟩ m ⟨hi,ho,hm⟩ ih;simp only at hi ho hm;simp only[go_sem,Cf];refine Cy (λ h2=>?_) (λ h2=>?_)
 . have Cv:i<g.length:=by simp at h2;omega
   have hw:=Cd i (by omega);have C6:(0:Int)<=(i:Int)/\(i:Int)<(g.length:Int):=by omega
   simp only[go_sem,BY,ho,Ab,C6,hw];refine ih (i+1,o.set i (-1)) _ ⟨Cv,by simpa using ho,λ j hj=>?_⟩ (by simp only;omega) ?_
   . rw[D7];by_cases e:i=j
     . rw[if_pos ⟨e,by omega⟩]
     . rw[if_neg (λ h=>e h.1)];exact hm j (by omega)
   . (refine BW ?_;simp[ZF,Dj,Ll];done)
 have W0:i=g.length:=by simp at h2;omega
 subst W0;have hoe:o=List.replicate g.length (-1):=by
   refine List.ext_getElem (by simp[ho]) λ j h3 h4=>?_;have:=hm j (by omega);rw[getD_eq h3] at this
   simpa using this
 subst hoe;clear ih hm;have Bbz:=G1 sh goal (by omega);have hg0:(0:Int)<=(goal:Int)/\(goal:Int)<(g.length:Int):=by omega
 simp only[go_sem,G0,H9,Ab,Bbz,hg0];cases hs:sh.getD goal false;rotate_left
 . simp only[go_sem,hs];refine BX ?_;simp only[go_sem];unfold Dz;rw[if_pos hs];simp[BZ]
 simp only[go_sem,hs,BY,Bi,Ab,hg0];have hdv:Dz g sh goal=Kh g sh (g.length - 1) 1 ((List.replicate g.length (-1)).set goal 0):=by unfold Dz;rw[if_neg (by rw[hs];simp)]
 refine B7 (λ q:Nat×List Int=>⟨[(0,.p (.sl (Cj g))),(1,.p (.sl (CO sh))),(7,.ref 14 0 g.length g.length),(9,.p (.int .i64 (q.1:Nat)))],[(14,.arr 3 1 (BZ q.2))],82⟩)
   (λ q=>1<=q.1/\q.1<=24/\q.2.length=g.length/\Kh g sh (g.length - q.1) q.1 q.2=Dz g sh goal) (λ q=>g.length - q.1) (1,(List.replicate g.length (-1)).set goal 0) ⟨Ai _,by omega,by simp,hdv.symm⟩ (BW (by simp[ZF,Dj,Ll])) ?_
 rintro ⟨d,o⟩ m2 ⟨OD,Bc8,ho,he⟩ ih;simp only at OD Bc8 ho he;simp only[go_sem,Cf];refine Cy (λ h3=>?_) (λ h3=>?_);rotate_left
 . simp only[go_sem];refine BX ?_;simp only[go_sem];have:g.length - d=0:=by simp at h3;omega
   rw[this] at he;simp only[Kh] at he;rw[<-he,AA (by rw[BY];omega)];try simp[BY,ho]
 have hdt:d<g.length:=by simp at h3;omega
 have hwd:=Cd d (by omega);have hwp:IntKind.i64.wrap ((d:Int) - 1)=(d:Int) - 1:=by rw[B3]<;>omega
 rw[show g.length - d=(g.length - (d+1))+1 by omega] at he;simp only[Kh] at he;generalize hT:Jz g sh d g.length 0 o=T at he;simp only[go_sem];refine B7 (λ q:Nat×List Int=>⟨[(0,.p (.sl (Cj g))),(1,.p (.sl (CO sh))),(7,.ref 14 0 g.length g.length),(9,.p (.int .i64 (d:Nat))),(10,.p (.int .i64 (q.1:Nat)))],[(14,.arr 3 1 (BZ q.2))],82⟩)
   (λ q=>q.1<=g.length/\q.2.length=g.length/\Jz g sh d (g.length - q.1) q.1 q.2=T) (λ q=>g.length - q.1) (0,o) ⟨AE _,ho,hT⟩ (BW (by simp[ZF])) ?_
 rintro ⟨v,o1⟩ m3 ⟨hv,ho1,he1⟩ ih1;simp only at hv ho1 he1;simp only[go_sem,Cf];refine Cy (λ h4=>?_) (λ h4=>?_);rotate_left
 . have:g.length - v=0:=by simp at h4;omega
   rw[this] at he1;simp only[Jz] at he1;simp only[go_sem,hwd];refine ih (d+1,o1) _ ⟨by omega,by omega,ho1,by rw[he1];exact he⟩ (by simp only;omega) ?_
   (refine BW ?_;simp[ZF];done)
 have Yh:v<g.length:=by simp at h4;omega
 have Yg:=Cd v (by omega);rw[show g.length - v=(g.length - (v+1))+1 by omega] at he1;simp only[Jz] at he1;have Q7:=G1 sh v (by omega);have hgo:=Cm o1 v (by omega);have Q5:(0:Int)<=(v:Int)/\(v:Int)<(g.length:Int):=by omega
 cases c1:sh.getD v false;rotate_left
 . simp only[go_sem,G0,BY,H9,ho1,Ab,Q7,hgo,Q5,c1,Yg];refine ih1 (v+1,o1) _ ⟨Yh,ho1,?_⟩ (by simp only;omega) ?_
   . rw[<-he1];unfold KH;rw[if_pos (.inl c1)]
   . (refine BW ?_;simp[ZF];done)
 cases c2:decide (0<=o1.getD v 0);rotate_left
 . simp only[go_sem,G0,BY,H9,ho1,Ab,Q7,hgo,Q5,c1,c2,Yg];refine ih1 (v+1,o1) _ ⟨Yh,ho1,?_⟩ (by simp only;omega) ?_
   . rw[<-he1];unfold KH;rw[if_pos (.inr (Ad c2))]
   . (refine BW ?_;simp[ZF];done)
 simp only[go_sem,G0,BY,H9,ho1,Ab,Q7,hgo,Q5,c1,c2];have Mm:KH g sh d v o1=if (g.getD v []).any (λ w=>decide (o1.getD w.toNat 0=(d:Int) - 1))=true then o1.set v d else o1:=by
   unfold KH;rw[if_neg (by
     rintro (h | h)
     . rw[c1] at h;cases h
     . exact Ae c2 h)]
 rw[Mm] at he1;have Dq:∀k,k<(g.getD v []).length->∃w:Nat,(g.getD v []).getD k 0=(w:Int)/\w<g.length/\w≠v:=λ k hk=>TQ hg Yh hk;have hrl:(g.getD v []).length<=24:=by
   have hP:=hg.2 v Yh;have key:∀k,k<=(g.getD v []).length->∀j,j<k->(j:Int)<=(g.getD v []).getD j 0:=by
     intro k
     induction k with
     | zero=>intro _ j hj;omega
     | succ k ihk=>
       intro hk j hj;rcases AF.1 hj with h5 | rfl
       . exact ihk (by omega) j h5
       . have h6:=hP j (by omega);unfold JK at h6;rcases j with _ | j
         . exact h6.1
         . have h7:=ihk (by omega) j (by omega);have h8:=h6.2.2.2 (by omega);rw[show j+1 - 1=j from rfl] at h8;omega
   rcases BT (g.getD v []).length with h5 | h5
   . omega
   . have h6:=key _ (Ai _) ((g.getD v []).length - 1) (by omega);obtain ⟨w,h7,h8,_⟩:=Dq ((g.getD v []).length - 1) (by omega);omega
 have hgv:=Gx g v Yh;generalize g.getD v []=row at*;clear Mm c1 c2 Q7 hgo;refine B7 (λ k:Nat=>⟨[(0,.p (.sl (Cj g))),(1,.p (.sl (CO sh))),(7,.ref 14 0 g.length g.length),(9,.p (.int .i64 (d:Nat))),(10,.p (.int .i64 (v:Nat))),(11,.p (.int .i64 (k:Nat)))],
     [(14,.arr 3 1 (BZ (if (row.take k).any (λ w=>decide (o1.getD w.toNat 0=(d:Int) - 1))=true then o1.set v d else o1)))],82⟩)
   (λ k=>k<=row.length) (λ k=>row.length - k) 0 (AE _) (BW (by simp[ZF])) ?_
 rintro k m4 hk Hw;simp only[go_sem,Cf,BY,Ab,hgv,Q5];refine Cy (λ h5=>?_) (λ h5=>?_);rotate_left
 . have:k=row.length:=by simp at h5;omega
   subst this;rw[Ar];clear Hw;generalize row.any (λ w=>decide (o1.getD w.toNat 0=(d:Int) - 1))=an at*;simp only[go_sem,Yg];refine ih1 (v+1,if an=true then o1.set v d else o1) _ ⟨Yh,?_,he1⟩ (by simp only;omega) ?_
   . simp only;split<;>simp[ho1]
   . (refine BW ?_;simp[ZF];done)
 have J6:k<row.length:=by simp at h5;omega
 have GO:=Cd k (by omega);obtain ⟨w,hw,hwl,Bb8⟩:=Dq k J6;have Mo:=Cm row k J6;rw[hw] at Mo;have Hn:(0:Int)<=(k:Int)/\(k:Int)<(row.length:Int):=by omega
 have MD:(0:Int)<=(w:Int)/\(w:Int)<(g.length:Int):=by omega
 have Q6:=any_take_succ (λ w=>decide (o1.getD w.toNat 0=(d:Int) - 1)) row k 0 J6;rw[hw] at Q6;simp only[Ab] at Q6;generalize (row.take k).any (λ w=>decide (o1.getD w.toNat 0=(d:Int) - 1))=an at*;have Tp:(if an=true then o1.set v d else o1).length=g.length:=by split<;>simp[ho1]
 have hgw:=Cm (if an=true then o1.set v d else o1) w (by omega);have Bby:(if an=true then o1.set v d else o1).getD w 0=o1.getD w 0:=by
   split
   . rw[D7,if_neg (λ h=>Bb8 h.1.symm)]
   . rfl
 rw[Bby] at hgw;have E2:(if an=true then o1.set v d else o1).set v d=o1.set v d:=by split<;>simp
 generalize hq:(if an=true then o1.set v d else o1)=q at*;simp only[go_sem,Cf,BY,Ab,hgv,Q5,Mo,Hn,Tp,hgw,MD,hwp];cases c3:decide (o1.getD w 0=(d:Int) - 1)
 . simp only[go_sem,c3,GO];refine Hw (k+1) _ J6 (by omega) ?_;rw[Q6,c3,Bool.or_false,hq]
   (refine BW ?_;simp[ZF];done)
 . simp only[go_sem,c3,GO,BY,Tp,Ab,Q5];refine Hw (k+1) _ J6 (by omega) ?_;rw[Q6,c3,Bool.or_true,if_pos rfl,<-E2,Dj]
   (refine BW ?_;simp[ZF,Ll];done)
theorem Xz(g:List (List Int))(sh:List Bool)(hg:Ri g):B2 prog 68 [.p (.sl (Cj g)),.p (.sl (CO sh))] [] λ h r=>h=[]/\r= .p (.int .i64 (if DV g then (if sh.length=g.length then 0 else 19) else 20)):=by
 refine B1 func68 rfl o7 (by simp[Tryz.f68]) ?_;simp only[go_sem];refine Cq ((Aeh g hg)) ?_;cases c1:decide (DV g)
 . simp only[go_sem,c1];rw[if_neg (Ae c1)]
 simp only[go_sem,c1,G0,Cf];rw[if_pos (Ad c1)];cases c2:decide ((sh.length:Int)=(g.length:Int))
 . simp only[go_sem,c2];rw[if_neg (λ h=>Ae c2 (by omega))]
 . simp only[go_sem,c2];rw[if_pos (by have:=Ad c2;omega)]
def Ac5(g:List (List Int))(D:List Int)(v:Nat):Int:=if 0<D.getD v 0 then ((g.getD v []).find? (λ w=>decide (D.getD w.toNat 0=D.getD v 0 - 1))).getD (-1) else -1
theorem Ju{g:List (List Int)}(hg:DV g)(sh:List Bool){goal:Nat}(El:goal<g.length){v:Nat}(hv:v<g.length):-1<=(Dz g sh goal).getD v 0/\(Dz g sh goal).getD v 0<=24:=by
 rcases (r9 hg sh goal El).2 v hv with h | h | h<;>omega
theorem Ja{g:List (List Int)}(hg:DV g){u:Nat}(hu:u<g.length):(g.getD u []).length<=24:=by
 have hP:=hg.2 u hu;have key:∀k,k<=(g.getD u []).length->∀j,j<k->(j:Int)<=(g.getD u []).getD j 0:=by
   intro k
   induction k with
   | zero=>intro _ j hj;omega
   | succ k ihk=>
     intro hk j hj;rcases AF.1 hj with h5 | rfl
     . exact ihk (by omega) j h5
     . have h6:=hP j (by omega);unfold JK at h6;rcases j with _ | j
       . exact h6.1
       . have h7:=ihk (by omega) j (by omega);have h8:=h6.2.2.2 (by omega);rw[show j+1 - 1=j from rfl] at h8;omega
 have hl:=hg.1;rcases BT (g.getD u []).length with h5 | h5
 . omega
 . have h6:=key _ (Ai _) ((g.getD u []).length - 1) (by omega);obtain ⟨w,h7,h8,_⟩:=TQ hg hu (k:=(g.getD u []).length - 1) (by omega);omega
def jm1(j:Nat):Int:=(j:Int) - 1
theorem Ars(g:List (List Int))(sh:List Bool)(goal:Nat)(hg:DV g)(H9:sh.length=g.length)(El:goal<g.length):
   B2 prog 156 [.p (.sl (Cj g)),.p (.sl (CO sh)),.p (.int .i64 (goal:Nat))] [] λ h r=>h=[]/\∃o:List Int,r= .p (.sl (BZ o))/\o.length=g.length/\∀v,v<g.length->o.getD v 0=Ac5 g (Dz g sh goal) v:=by
 have hlen:=hg.1;have hDl:=Lq g sh goal;have hDr:∀v,v<g.length->-1<=(Dz g sh goal).getD v 0/\(Dz g sh goal).getD v 0<=24:=λ v hv=>Ju hg sh El hv;have hd:=Ts g sh goal hg H9 El;refine B1 func156 rfl Xg (by simp[Tryz.f156]) ?_;simp only[go_sem];refine Cq ((hd)) ?_;generalize Dz g sh goal=ds at*;clear hd;simp only[go_sem,Cf];refine ⟨by omega,?_⟩;refine B7 (λ q:Nat×List Int=>⟨[(0,.p (.sl (Cj g))),(7,.p (.sl (BZ ds))),(8,.ref 18 0 g.length g.length),(9,.p (.int .i64 (q.1:Nat)))],[(18,.arr 3 1 (BZ q.2))],67⟩)
   (λ q=>q.1<=g.length/\q.2.length=g.length/\∀v,v<q.1->q.2.getD v 0=Ac5 g ds v) (λ q=>g.length - q.1) (0,List.replicate g.length 0) ⟨AE _,by simp,λ j hj=>absurd hj (A0 _)⟩ (BW (by simp[ZF,BZ])) ?_
 rintro ⟨v,o⟩ m ⟨hv,ho,DD⟩ ih;simp only at hv ho DD;simp only[go_sem,Cf];refine Cy (λ h2=>?_) (λ h2=>?_);rotate_left
 . simp only[go_sem];refine BX ?_;simp only[go_sem];have:v=g.length:=by simp at h2;omega
   subst this;refine ⟨by rw[BY];omega,o,?_,ho,DD⟩;rw[AA (by rw[BY];omega)]
 have Yh:v<g.length:=by simp at h2;omega
 have Yg:=Cd v (by omega);have Q5:(0:Int)<=(v:Int)/\(v:Int)<(g.length:Int):=by omega
 have hgv:=Gx g v Yh;have Dq:∀k,k<(g.getD v []).length->∃w:Nat,(g.getD v []).getD k 0=(w:Int)/\w<g.length/\w≠v:=λ k hk=>TQ hg Yh hk;have hrl:=Ja hg Yh;have hDv:=Cm ds v (by omega);have hDvr:=hDr v Yh;have hhv:Ac5 g ds v=if 0<ds.getD v 0 then ((g.getD v []).find? (λ w=>decide (ds.getD w.toNat 0=ds.getD v 0 - 1))).getD (-1) else -1:=rfl
 generalize g.getD v []=row at*;generalize hdv:ds.getD v 0=dv at*;have hwl:IntKind.i64.wrap ((row.length:Int) - 1)=jm1 row.length:=by unfold jm1;rw[B3]<;>omega
 simp only[go_sem,Cf,BY,ho,Ab,Q5,hgv,hwl];refine B7 (λ j:Nat=>⟨[(0,.p (.sl (Cj g))),(7,.p (.sl (BZ ds))),(8,.ref 18 0 g.length g.length),(9,.p (.int .i64 (v:Nat))),(10,.p (.int .i64 (jm1 j)))],
     [(18,.arr 3 1 (BZ (o.set v (((row.drop j).find? (λ w=>decide (ds.getD w.toNat 0=dv - 1))).getD (-1)))))],67⟩)
   (λ j=>j<=row.length/\(j=row.length∨0<dv)) (λ j=>j) row.length ⟨Ai _,.inl rfl⟩ (BW (by simp[ZF,Dj,Ll,AZ])) ?_
 rintro j m2 ⟨hj,hjd⟩ Hw;have E2:∀x,∀u,u<v+1->x=Ac5 g ds v->(o.set v x).getD u 0=Ac5 g ds u:=λ x u hu hx=>by
   rw[D7];by_cases e:v=u
   . subst e;rw[if_pos ⟨rfl,by omega⟩];exact hx
   . rw[if_neg (λ h=>e h.1)];exact DD u (by omega)
 rcases j with _ | j
 . have hz:¬(0:Int)<=jm1 0:=by unfold jm1;omega
   simp only[go_sem,hz,Yg];refine ih (v+1,o.set v ((row.find? (λ w=>decide (ds.getD w.toNat 0=dv - 1))).getD (-1))) _ ⟨Yh,by simp[ho],λ u hu=>E2 _ u hu ?_⟩ (by simp only;omega) ?_
   . rw[hhv];rcases hjd with h3 | h3
     . have:row=[]:=List.length_eq_zero_iff.1 h3.symm;subst this;simp
     . rw[if_pos h3]
   . (refine BW ?_;simp[ZF];done)
 . have hj1:jm1 (j+1)=(j:Int):=by unfold jm1;omega
   have hjn:(0:Int)<=(j:Int):=by omega
   have YY:IntKind.i64.wrap ((j:Int) - 1)=jm1 j:=by unfold jm1;rw[B3]<;>omega
   cases c1:decide (0<dv)
   . have hjl:j+1=row.length:=by
       rcases hjd with h3 | h3
       . exact h3
       . exact absurd h3 (Ae c1)
     have QB:row.drop (j+1)=[]:=by rw[hjl];simp
     rw[QB];simp only[go_sem,hj1,hjn,BY,hDl,Ab,Q5,hDv,c1,Yg];refine ih (v+1,o.set v (-1)) _ ⟨Yh,by simp[ho],λ u hu=>E2 _ u hu ?_⟩ (by simp only;omega) ?_
     . rw[hhv,if_neg (Ae c1)]
     . (refine BW ?_;simp[ZF];done)
   have j9:j<row.length:=by omega
   obtain ⟨w,hw,hwl2,hwne⟩:=Dq j j9;have hgj:=Cm row j j9;rw[hw] at hgj;have V2:(0:Int)<=(j:Int)/\(j:Int)<(row.length:Int):=by omega
   have MD:(0:Int)<=(w:Int)/\(w:Int)<(g.length:Int):=by omega
   have hDw:=Cm ds w (by omega);have hwd:IntKind.i64.wrap (dv - 1)=dv - 1:=by rw[B3]<;>omega
   have Oa:row.drop j=(w:Int)::row.drop (j+1):=by rw[Df row j 0 j9,hw]
   simp only[go_sem,hj1,hjn,BY,Cf,hDl,Ab,Q5,hDv,c1,hgv,hgj,V2];refine CG mixed (p:=[(0,0),(1,0),(2,0),(3,0),(4,0),(5,0),(6,0),(7,0),(8,0),(9,0)]) (by kernel_rfl) (by simp[C8,get]) ?_;simp only[go_sem,BY,hDl,Ab,Q5,hDv,hDw,MD,hwd];cases c2:decide (ds.getD w 0=dv - 1)
   . simp only[go_sem,c2,YY];refine Hw j _ ⟨by omega,.inr (Ad c1)⟩ (by omega) ?_;rw[Oa,List.find?_cons_of_neg (by simp only[Ab];simpa using Ae c2)]
     (refine BW ?_;simp[ZF];done)
   . simp only[go_sem,c2,YY,BY,Bz,ho,Ab,Q5];refine Hw j _ ⟨by omega,.inr (Ad c1)⟩ (by omega) ?_;rw[Oa,List.find?_cons_of_pos (by simp only[Ab];exact c2)];generalize ((row.drop (j+1)).find? (λ w=>decide (ds.getD w.toNat 0=dv - 1))).getD (-1)=y0;rw[show o.set v ((some (w:Int)).getD (-1))=(o.set v y0).set v (w:Int) by simp,Dj (o.set v y0)]
     (refine BW ?_;simp[ZF,Ll];done)
theorem Y6(l:List Int):Ka 1 (BZ l):=by
 intro e he;unfold BZ at he;obtain ⟨x,_,rfl⟩:=AU.1 he;rfl
theorem Amb{g:List (List Int)}(hg:DV g)(sh:List Bool){goal cur:Nat}(El:goal<g.length)(hc:cur<g.length)(Dt:cur≠goal)(h0:0<=(Dz g sh goal).getD cur 0):
   ∃w:Nat,Ac5 g (Dz g sh goal) cur=(w:Int)/\w<g.length/\(Dz g sh goal).getD w 0=(Dz g sh goal).getD cur 0 - 1/\1<=(Dz g sh goal).getD cur 0:=by
 have hdp:=(r9 hg sh goal El).2 cur hc;generalize Dz g sh goal=ds at*;rcases hdp with h | h | ⟨h1,h2,w,h3,h4⟩
 . omega
 . exact absurd h.2 Dt
 . unfold Ac5;rw[if_pos (by omega)];have hs:((g.getD cur []).find? (λ w=>decide (ds.getD w.toNat 0=ds.getD cur 0 - 1))).isSome:=by
     rw[List.find?_isSome];exact ⟨w,h3,Ag h4⟩
   obtain ⟨u,hu⟩:=Bt.1 hs;have hm:=List.mem_of_find?_eq_some hu;have hp:ds.getD u.toNat 0=ds.getD cur 0 - 1:=by have:=List.find?_some hu;simpa using this
   obtain ⟨k,hk,hku⟩:=AD.1 hm;obtain ⟨x,IM,HT,_⟩:=TQ hg hc hk;rw[getD_eq hk,hku] at IM;rw[hu];subst IM;exact ⟨x,rfl,HT,by simpa using hp,h1⟩
theorem Amz(g:List (List Int))(sh:List Bool)(src goal:Nat)(hg:DV g)(H9:sh.length=g.length)(El:goal<g.length)(j0:src<g.length)(h0:0<=(Dz g sh goal).getD src 0):
   B2 prog 124 [.p (.sl (Cj g)),.p (.sl (CO sh)),.p (.int .i64 (src:Nat)),.p (.int .i64 (goal:Nat))] [] λ h r=>h=[]/\∃o:List Int,r= .p (.sl (BZ o))/\1<=o.length/\o.length<=26:=by
 have hDl:=Lq g sh goal;have Ay0:∀cur,cur<g.length->cur≠goal->0<=(Dz g sh goal).getD cur 0->_:=λ cur hc Dt h=>Amb hg sh El hc Dt h;have j3:=(Ju hg sh El j0).2;have hd:=Ts g sh goal hg H9 El;have hh:=Ars g sh goal hg H9 El;refine B1 func124 rfl Xh (by simp[Tryz.f124]) ?_;simp only[go_sem];refine Cq ((hd)) ?_;generalize Dz g sh goal=ds at*;clear hd;have hDv:=Cm ds src (by omega);have hs0:(0:Int)<=(src:Int)/\(src:Int)<(g.length:Int):=by omega
 have Art:¬ds.getD src 0<0:=by omega
 simp only[go_sem,BY,hDl,Ab,hDv,hs0,Art];refine Em hh ?_;rintro h' r ⟨rfl,hp,rfl,hpl,hpv⟩;simp only[go_sem];refine B7 (λ q:Nat×List Int=>⟨[(2,.p (.int .i64 (q.1:Nat))),(3,.p (.int .i64 (goal:Nat))),(9,.p (.sl (BZ hp))),(10,.ref 24 0 q.2.length q.2.length)],[(24,.arr 3 1 (BZ q.2))],37⟩)
   (λ q=>q.1<g.length/\0<=ds.getD q.1 0/\1<=q.2.length/\(q.2.length:Int)+ds.getD q.1 0<=25) (λ q=>(ds.getD q.1 0).toNat) (src,[(src:Int)]) ⟨j0,h0,Ai _,by show ((1:Nat):Int)+ds.getD src 0<=25;omega⟩ (BW (by simp[ZF,BZ])) ?_
 rintro ⟨cur,o⟩ m ⟨hc,S5,ho1,VB⟩ ih;simp only at hc S5 ho1 VB;simp only[go_sem];cases c1:decide ((cur:Int)=(goal:Int))
 . have Dt:cur≠goal:=λ e=>Ae c1 (by rw[e]);obtain ⟨w,VW,hw2,hw3,hw4⟩:=Ay0 cur hc Dt S5;have hgc:=Cm hp cur (by omega);rw[hpv cur hc,VW] at hgc;have VD:(0:Int)<=(cur:Int)/\(cur:Int)<(g.length:Int):=by omega
   simp only[go_sem,c1,BY,hpl,Ab,hgc,VD];refine ⟨⟨Dy _ _ rfl,by omega⟩,?_⟩;refine ih (w,o++[(w:Int)]) _ ⟨hw2,by simp only;omega,by simp,by show (((o++[(w:Int)]).length:Nat):Int)+ds.getD w 0<=25;rw[Aq,BC];omega⟩ (by simp only;omega) ?_
   (refine BW ?_;simp[ZF,D0,BY];done)
 . simp only[go_sem,c1];refine BX ?_;simp only[go_sem];refine ⟨by rw[BY],o,?_,ho1,by omega⟩;rw[GD _ _ (Ai _)]
theorem Aan(g:List (List Int))(sh:List Bool)(v:Nat)(hg:DV g)(H9:sh.length=g.length)(hv:v<g.length):
   B2 prog 86 [.p (.sl (Cj g)),.p (.sl (CO sh)),.p (.int .i64 (v:Nat))] [] λ h r=>h=[]/\∃o:List Int,r= .p (.sl (BZ o))/\o.length<=30:=by
 have hDl:=Lq g sh v;have hd:=Ts g sh v hg H9 hv;have hf:=λ src hs h0=>Amz g sh src v hg H9 hv hs h0;have Q7:=G1 sh v (by omega);have Q5:(0:Int)<=(v:Int)/\(v:Int)<(g.length:Int):=by omega
 refine B1 func86 rfl n9 (by simp[Tryz.f86]) ?_;simp only[go_sem,G0,H9,Ab,Q7,Q5];cases hs:sh.getD v false;rotate_left
 . simp only[go_sem,hs];refine BX ?_;simp only[go_sem];exact ⟨[],rfl,by simp⟩
 simp only[go_sem,hs];refine Cq ((hd)) ?_;generalize Dz g sh v=ds at*;clear hd hs Q7;have Dq:∀k,k<(g.getD v []).length->∃w:Nat,(g.getD v []).getD k 0=(w:Int)/\w<g.length/\w≠v:=λ k hk=>TQ hg hv hk;have hrl:=Ja hg hv;have hgv:=Gx g v hv;generalize g.getD v []=row at*;simp only[go_sem];refine B7 (λ q:Nat×Int=>⟨[(0,.p (.sl (Cj g))),(1,.p (.sl (CO sh))),(2,.p (.int .i64 (v:Nat))),(7,.p (.sl (BZ ds))),(8,.p (.int .i64 q.2)),(9,.p (.int .i64 (q.1:Nat)))],[],72⟩)
   (λ q=>q.1<=row.length/\(q.2=-1∨∃b:Nat,q.2=(b:Int)/\b<g.length/\0<=ds.getD b 0)) (λ q=>row.length - q.1) (0,-1) ⟨AE _,.inl rfl⟩ (BW (by simp[ZF])) ?_
 rintro ⟨k,bst⟩ m ⟨hk,hb⟩ ih;simp only at hk hb;simp only[go_sem,Cf,BY,Ab,hgv,Q5];refine Cy (λ h3=>?_) (λ h3=>?_)
 . have J6:k<row.length:=by simp at h3;omega
   have GO:=Cd k (by omega);obtain ⟨w,hw,hwl,_⟩:=Dq k J6;have Mo:=Cm row k J6;rw[hw] at Mo;have Hn:(0:Int)<=(k:Int)/\(k:Int)<(row.length:Int):=by omega
   have MD:(0:Int)<=(w:Int)/\(w:Int)<(g.length:Int):=by omega
   have hDw:=Cm ds w (by omega);simp only[go_sem,Cf,BY,Ab,hgv,Q5,Mo,Hn];refine CG mixed (p:=[(0,0),(1,0),(2,0),(3,0),(4,0),(5,0),(6,0),(7,0),(8,0),(9,0),(10,0),(11,0),(12,0),(13,0),(14,0),(15,0),(16,0),(17,0),(18,0),(19,0)]) (by kernel_rfl) (by simp[C8,get]) ?_;cases c1:decide (0<=ds.getD w 0)
   . simp only[go_sem,BY,hDl,Ab,hDw,MD,c1,GO];refine ih (k+1,bst) _ ⟨J6,hb⟩ (by simp only;omega) ?_
     (refine BW ?_;simp[ZF];done)
   have hnw:∃b:Nat,(w:Int)=(b:Int)/\b<g.length/\0<=ds.getD b 0:=⟨w,rfl,hwl,Ad c1⟩;rcases hb with rfl | ⟨b,rfl,S6,hb0⟩
   . simp only[go_sem,BY,hDl,Ab,hDw,MD,c1,GO];refine ih (k+1,(w:Int)) _ ⟨J6,.inr hnw⟩ (by simp only;omega) ?_
     (refine BW ?_;simp[ZF];done)
   . have hDb:=Cm ds b (by omega);have hbi:(0:Int)<=(b:Int)/\(b:Int)<(g.length:Int):=by omega
     have hbn:¬(b:Int)<0:=by omega
     cases c2:decide (ds.getD w 0<ds.getD b 0)
     . simp only[go_sem,BY,hDl,Ab,hDw,MD,c1,hbn,hDb,hbi,c2,GO];refine ih (k+1,(b:Int)) _ ⟨J6,.inr ⟨b,rfl,S6,hb0⟩⟩ (by simp only;omega) ?_
       (refine BW ?_;simp[ZF];done)
     . simp only[go_sem,BY,hDl,Ab,hDw,MD,c1,hbn,hDb,hbi,c2,GO];refine ih (k+1,(w:Int)) _ ⟨J6,.inr hnw⟩ (by simp only;omega) ?_
       (refine BW ?_;simp[ZF];done)
 . rcases hb with rfl | ⟨b,rfl,S6,hb0⟩
   . simp only[go_sem];refine BX ?_;simp only[go_sem];exact ⟨[],rfl,by simp⟩
   . have hbn:¬(b:Int)<0:=by omega
     simp only[go_sem,hbn];refine Em (hf b S6 hb0) ?_;rintro h' r ⟨rfl,o,rfl,ho1,VB⟩;have hwo:IntKind.i64.wrap ((o.length:Int) - 1)=((o.length - 1:Nat):Int):=by rw[B3]<;>omega
     simp only[go_sem,BY,hwo,Ab,L2];have htl:(o.take (o.length - 1)).length<=o.length:=by simp
     refine ⟨⟨by omega,Y6 _⟩,?_⟩;refine ⟨⟨Y6 _,by omega⟩,?_⟩;refine BX ?_;simp only[go_sem];refine ⟨?_,(v:Int)::o.take (o.length - 1),?_,by simp;omega⟩
     . simp[BZ]
     . simp[BZ,List.take_take]
theorem Ams(g:List (List Int))(sh:List Bool)(hg:DV g)(Yi:Ri g)(H9:sh.length=g.length):
   B2 prog 47 [.p (.sl (Cj g)),.p (.sl (CO sh))] [] λ h r=>h=[]/\∃o:List Int,r= .Dv [.p (.int .i64 (o.length:Nat)),.p (.sl (BZ o)),.p (.int .i64 0)]/\o.length<=30:=by
 have ht:=λ v hv=>Aan g sh v hg H9 hv;have hl:=hg.1;refine B1 func47 rfl p4 (by simp[Tryz.f47]) ?_;simp only[go_sem];refine Cq ((Xz g sh Yi)) ?_;rw[if_pos hg,if_pos H9];simp only[go_sem];refine B7 (λ q:Nat×List Int=>⟨[(0,.p (.sl (Cj g))),(1,.p (.sl (CO sh))),(8,.p (.sl (BZ q.2))),(9,.p (.int .i64 (q.1:Nat)))],[],46⟩)
   (λ q=>q.1<=g.length/\q.2.length<=30) (λ q=>g.length - q.1) (0,[]) ⟨AE _,by simp⟩ ((Wk.nil (t:=8) (q:=42) (sz:=1) 3 rfl rfl (by decide)).trans ((Wk.pure (t:=8) (id:=42) (sz:=1) (e:=3) (es:=[]) rfl rfl).trans (BW (by simp[ZF,BZ])))) ?_
 rintro ⟨v,bst⟩ m ⟨hv,hb⟩ ih;simp only at hv hb;simp only[go_sem,Cf];refine Cy (λ h3=>?_) (λ h3=>?_)
 . have Yh:v<g.length:=by simp at h3;omega
   have Yg:=Cd v (by omega);simp only[go_sem];refine Em (ht v Yh) ?_;rintro h' r ⟨rfl,o,rfl,ho⟩;simp only[go_sem,BY];cases c1:decide (0<(o.length:Int))
   . simp only[go_sem,BY,c1,Yg];refine ih (v+1,bst) _ ⟨Yh,hb⟩ (by simp only;omega) ?_
     (refine BW ?_;simp[ZF];done)
   cases c2:decide ((bst.length:Int)=0);rotate_left
   . simp only[go_sem,BY,c1,c2,Yg];refine ih (v+1,o) _ ⟨Yh,ho⟩ (by simp only;omega) ?_
     (refine BW ?_;simp[ZF];done)
   cases c3:decide ((o.length:Int)<(bst.length:Int))
   . simp only[go_sem,BY,c1,c2,c3,Yg];refine ih (v+1,bst) _ ⟨Yh,hb⟩ (by simp only;omega) ?_
     (refine BW ?_;simp[ZF];done)
   . simp only[go_sem,BY,c1,c2,c3,Yg];refine ih (v+1,o) _ ⟨Yh,ho⟩ (by simp only;omega) ?_
     (refine BW ?_;simp[ZF];done)
 . simp only[go_sem,BY];refine BX ?_;simp only[go_sem];exact ⟨bst,rfl,hb⟩
def cellsV(n:Nt):Int:=(n.blocks.length:Int)+Di n.spurs
theorem Wp{nb:Nat}{l:List Da}(h:EE nb l):∀(k i:Nat),i+k<=l.length->Di (l.take i)<=Di (l.take (i+k))
 | 0,_,_=>Bx _
 | k+1,i,hk=>by
   have h1:=Wp h k i (by omega);have h2:=h (i+k) (by omega);obtain ⟨_,_,_,_,h5,_,_⟩:=h2;rw[show i+(k+1)=(i+k)+1 by omega,CI l (i+k) Cu (by omega),D9];omega
theorem MJ{nb:Nat}{l:List Da}(h:EE nb l){i:Nat}(hi:i<l.length):
   (nb:Int)<=(l.getD i Cu).base/\(l.getD i Cu).base+(l.getD i Cu).Cs<=(nb:Int)+Di l/\(l.getD i Cu).base=(nb:Int)+Di (l.take i):=by
 obtain ⟨_,_,_,_,h5,h6,h7⟩:=h i hi;have h1:=Io nb l i (by omega) (λ j hj=>h j (by omega));have h2:=Wp h (l.length - (i+1)) (i+1) (by omega);rw[show i+1+(l.length - (i+1))=l.length by omega,Ar,CI l i Cu hi,D9] at h2;omega
theorem P4{nb:Nat}{l:List Da}(h:EE nb l):0<=Di l/\Di l<=4*l.length:=by
 have:=Io nb l l.length (Ai _) h;rw[Ar] at this;exact this
theorem Aa2(n:Nt)(hn:validN n):B2 prog 49 [.agg n.cs] [] λ h r=>h=[]/\r= .p (.int .i64 (cellsV n)):=by
 obtain ⟨e1,e2,e3,e4,e5,H8,e7,e8⟩:=hn;have Ac8:=e1.2.1;refine B1 func49 rfl Anv (by simp[Tryz.f49]) ?_;simp only[go_sem,Nt.cs,Ci];refine B7 (λ i:Nat=>⟨[(1,.ptr 1 0),(3,.p (.int .i64 ((n.blocks.length:Int)+Di (n.spurs.take i)))),(4,.p (.int .i64 (i:Nat)))],[(1,.box (Nt.cs n))],24⟩)
   (λ i=>i<=n.spurs.length) (λ i=>n.spurs.length - i) 0 (AE _) (BW (by simp[ZF,Nt.cs,Di])) ?_
 rintro i m hi ih;simp only[go_sem,Nt.cs,Cg];refine Cy (λ h2=>?_) (λ h2=>?_)
 . have Cv:i<n.spurs.length:=by simp at h2;omega
   have hw:=Cd i (by omega);have hg:=EB n.spurs i Cv;have C6:(0:Int)<=(i:Int)/\(i:Int)<(n.spurs.length:Int):=by omega
   have hr:=Io n.blocks.length n.spurs (i+1) Cv (λ j hj=>H8 j (by omega));have Q6:Di (n.spurs.take (i+1))=Di (n.spurs.take i)+(n.spurs.getD i Cu).Cs:=by rw[CI n.spurs i Cu Cv,D9]
   rw[Q6] at hr;have YZ:IntKind.i64.wrap ((n.blocks.length:Int)+Di (n.spurs.take i)+(n.spurs.getD i Cu).Cs)=(n.blocks.length:Int)+Di (n.spurs.take i)+(n.spurs.getD i Cu).Cs:=by rw[B3]<;>omega
   simp only[go_sem,Nt.cs,Cg,Ab,hg,C6,YZ,hw];refine ih (i+1) _ Cv (by omega) ?_
   (refine BW ?_;simp[ZF,Nt.cs,Q6,Int.add_assoc];done)
 . simp only[go_sem];have:i=n.spurs.length:=by simp at h2;omega
   subst this;rw[Ar];rfl
def M5(sh:List Bool)(s:Da):Bool:=!sh.getD s.HL.toNat false&&(!sh.getD s.out.toNat false&&(List.range s.Cs.toNat).all λ j=>!sh.getD (s.base.toNat+j) false)
theorem Ar5(n:Nt)(hn:validN n)(sh:List Bool)(H9:(sh.length:Int)=cellsV n)(s:Nat)(hs:s<n.spurs.length):
   B2 prog 87 [.agg n.cs,.p (.sl (CO sh)),.p (.int .i64 (s:Nat))] [] λ h r=>h=[]/\r= .p (.bool (M5 sh (n.spurs.getD s Cu))):=by
 obtain ⟨e1,e2,e3,e4,e5,H8,e7,e8⟩:=hn;have Ac8:=e1.2.1;obtain ⟨i1,i2,i3,i4,i5,i6,i7⟩:=H8 s hs;obtain ⟨r1,r2,r3⟩:=MJ H8 hs;have DD:=P4 H8;have hg:=EB n.spurs s hs;have hs0:(0:Int)<=(s:Int)/\(s:Int)<(n.spurs.length:Int):=by omega
 unfold cellsV at H9;refine B1 func87 rfl An4 (by simp[Tryz.f87]) ?_;simp only[go_sem,Nt.cs,Cg,Ab,hg,hs0];generalize n.spurs.getD s Cu=sp at*;clear hg;obtain ⟨nm,dp,HL,out,sl,bs⟩:=sp;simp only at i1 i2 i3 i4 i5 i6 i7 r1 r2 r3;obtain ⟨a,rfl⟩:∃a:Nat,HL=(a:Int):=⟨HL.toNat,by omega⟩;obtain ⟨b,rfl⟩:∃b:Nat,out=(b:Int):=⟨out.toNat,by omega⟩;obtain ⟨c,rfl⟩:∃c:Nat,bs=(c:Int):=⟨bs.toNat,by omega⟩;obtain ⟨d,rfl⟩:∃d:Nat,sl=(d:Int):=⟨sl.toNat,by omega⟩;have ha:=G1 sh a (by omega);have hb:=G1 sh b (by omega);have ha0:(0:Int)<=(a:Int)/\(a:Int)<(sh.length:Int):=by omega
 have hb0:(0:Int)<=(b:Int)/\(b:Int)<(sh.length:Int):=by omega
 have hO:M5 sh ⟨nm,dp,a,b,d,c⟩=(!sh.getD a false&&(!sh.getD b false&&(List.range d).all λ j=>!sh.getD (c+j) false)):=by simp[M5]
 cases c1:sh.getD a false;rotate_left
 . simp only[go_sem,G0,Ab,ha,ha0,c1];rw[hO,c1];simp
 cases c2:sh.getD b false;rotate_left
 . simp only[go_sem,G0,Ab,ha,ha0,c1,hb,hb0,c2];rw[hO,c1,c2];simp
 simp only[go_sem,G0,Ab,ha,ha0,c1,hb,hb0,c2];rw[hO,c1,c2];refine B7 (λ j:Nat=>⟨[(1,.p (.sl (CO sh))),(7,.ptr 7 0),(8,.p (.int .i64 ((c+j:Nat):Int)))],[(7,.box [.p (.str nm),.p (.bool dp),.p (.int .i64 (a:Nat)),.p (.int .i64 (b:Nat)),.p (.int .i64 (d:Nat)),.p (.int .i64 (c:Nat))])],41⟩)
   (λ j=>j<=d/\∀u,u<j->sh.getD (c+u) false=false) (λ j=>d - j) 0 ⟨AE _,λ u hu=>absurd hu (A0 _)⟩ (BW (by simp[ZF])) ?_
 rintro j m ⟨hj,Atr⟩ ih;have hwe:IntKind.i64.wrap ((c:Int)+(d:Int))=(c:Int)+(d:Int):=by rw[B3]<;>omega
 simp only[go_sem,hwe];refine Cy (λ h2=>?_) (λ h2=>?_)
 . have j9:j<d:=by simp at h2;omega
   have hw:=Cd (c+j) (by omega);have hgj:=G1 sh (c+j) (by omega);have V2:(0:Int)<=((c+j:Nat):Int)/\((c+j:Nat):Int)<(sh.length:Int):=by omega
   simp only[go_sem,G0,Ab,hgj,V2];cases c3:sh.getD (c+j) false
   . simp only[go_sem,c3,hw];refine ih (j+1) _ ⟨j9,λ u hu=>?_⟩ (by omega) ?_
     . rcases AF.1 hu with h5 | rfl
       . exact Atr u h5
       . exact c3
     . (refine BW ?_;simp[ZF,Nat.add_assoc];done)
   . simp only[go_sem,c3];have hex:((List.range d).all λ j=>!sh.getD (c+j) false)=false:=by
       rw[List.all_eq_false];exact ⟨j,List.mem_range.2 j9,by rw[c3];simp⟩
     rw[hex]
 . simp only[go_sem];have:j=d:=by simp at h2;omega
   subst this;have Hx:((List.range j).all λ j=>!sh.getD (c+j) false)=true:=by
     rw[AB];intro u hu;rw[Atr u (List.mem_range.1 hu)];rfl
   rw[Hx]
def slotsV(sh:List Bool):List Da->Int
 | []=>0
 | s::r=>(if s.CE&&M5 sh s then s.Cs else 0)+slotsV sh r
theorem MK(sh:List Bool)(l:List Da)(s:Da):slotsV sh (l++[s])=slotsV sh l+(if s.CE&&M5 sh s then s.Cs else 0):=by
 induction l with
 | nil=>simp[slotsV]
 | cons x r ih=>simp only[A6,slotsV,ih];omega
theorem O6(sh:List Bool){nb:Nat}{l:List Da}(h:EE nb l):∀k,k<=l.length->0<=slotsV sh (l.take k)/\slotsV sh (l.take k)<=4*k
 | 0,_=>by simp[slotsV]
 | k+1,hk=>by
   have h1:=O6 sh h k (by omega);obtain ⟨_,_,_,_,h5,h6,_⟩:=h k (by omega);rw[CI l k Cu (by omega),MK];split<;>omega
theorem Zn(n:Nt)(hn:validN n)(sh:List Bool)(H9:(sh.length:Int)=cellsV n):
   B2 prog 48 [.agg n.cs,.p (.sl (CO sh))] [] λ h r=>h=[]/\r= .p (.int .i64 (slotsV sh n.spurs)):=by
 have hO:=λ s hs=>Ar5 n hn sh H9 s hs;obtain ⟨e1,e2,e3,e4,e5,H8,e7,e8⟩:=hn;refine B1 func48 rfl Anw (by simp[Tryz.f48]) ?_;simp only[go_sem,Nt.cs];refine B7 (λ i:Nat=>⟨[(1,.p (.sl (CO sh))),(2,.ptr 2 0),(5,.p (.int .i64 (slotsV sh (n.spurs.take i)))),(6,.p (.int .i64 (i:Nat)))],[(2,.box (Nt.cs n))],35⟩)
   (λ i=>i<=n.spurs.length) (λ i=>n.spurs.length - i) 0 (AE _) (BW (by simp[ZF,Nt.cs,slotsV])) ?_
 rintro i m hi ih;simp only[go_sem,Nt.cs,Cg];refine Cy (λ h2=>?_) (λ h2=>?_)
 . have Cv:i<n.spurs.length:=by simp at h2;omega
   have hw:=Cd i (by omega);have hg:=EB n.spurs i Cv;have C6:(0:Int)<=(i:Int)/\(i:Int)<(n.spurs.length:Int):=by omega
   have hr:=O6 sh H8 i hi;have Q6:slotsV sh (n.spurs.take (i+1))=slotsV sh (n.spurs.take i)+(if (n.spurs.getD i Cu).CE&&M5 sh (n.spurs.getD i Cu) then (n.spurs.getD i Cu).Cs else 0):=by rw[CI n.spurs i Cu Cv,MK]
   have hOi:=hO i Cv;obtain ⟨_,_,_,_,i5,i6,_⟩:=H8 i Cv;generalize n.spurs.getD i Cu=s at*;have YZ:IntKind.i64.wrap (slotsV sh (n.spurs.take i)+s.Cs)=slotsV sh (n.spurs.take i)+s.Cs:=by rw[B3]<;>omega
   generalize slotsV sh (n.spurs.take i)=S at*;cases c1:s.CE
   . simp only[go_sem,Nt.cs,Cg,Ab,hg,C6,c1,hw];refine ih (i+1) _ Cv (by omega) ?_
     (refine BW ?_;simp[ZF,Nt.cs,Q6,c1];done)
   simp only[go_sem,Nt.cs,Cg,Ab,hg,C6,c1];refine Cq ((hOi)) ?_;cases c2:M5 sh s
   . simp only[go_sem,c2,hw];refine ih (i+1) _ Cv (by omega) ?_
     (refine BW ?_;simp[ZF,Nt.cs,Q6,c1,c2];done)
   . simp only[go_sem,Nt.cs,Cg,Ab,hg,C6,c1,c2,YZ,hw];refine ih (i+1) _ Cv (by omega) ?_
     (refine BW ?_;simp[ZF,Nt.cs,Q6,c1,c2];done)
 . simp only[go_sem];have:i=n.spurs.length:=by simp at h2;omega
   subst this;rw[Ar]
theorem Zh(n:Nat):List.take n (List.replicate n [Pd.bool false])=CO (List.replicate n false):=by simp[CO]
theorem DN{n:Nt}(hn:validN n):DV n.next/\Ri n.next/\n.next.length=n.blocks.length:=by
 obtain ⟨⟨h1,h2,h3,h4⟩,_⟩:=hn;refine ⟨⟨by omega,λ i hi=>?_⟩,⟨by omega,λ r hr=>?_⟩,h3⟩
 . rw[h3];exact (h4 i (by omega)).2.2
 . obtain ⟨i,hi,rfl⟩:=AD.1 hr;have:=(h4 i (by omega)).2.1;rw[getD_eq hi] at this;omega
theorem Ev{n:Nt}(hn:validN n):F3 n:=by
 have hg:=DN hn;obtain ⟨⟨h1,h2,h3,h4⟩,h5,h6,h7,_⟩:=hn;exact ⟨by omega,hg.2.1,by omega,by omega⟩
theorem Amx(n:Nt)(hn:validN n):B2 prog 21 [.agg n.cs] [] λ h r=>h=[]/\∃(o:List Int) (sl cap:Int),r= .Dv [.agg [.p (.int .i64 (o.length:Nat)),.p (.sl (BZ o)),.p (.int .i64 sl),.p (.int .i64 cap)],.p (.int .i64 0)]/\cap<=sl/\sl=slotsV (List.replicate (cellsV n).toNat false) n.spurs:=by
 have hV:=NT n (Ev hn);rw[Ag hn] at hV;obtain ⟨hg,Yi,OA⟩:=DN hn;have hG:=Ams n.next (List.replicate n.next.length false) hg Yi (by simp)
 have hC:=Aa2 n hn;have hS:=λ (c:Nat) (hc:(c:Int)=cellsV n)=>Zn n hn (List.replicate c false) (by simpa using hc);have H8:=hn.2.2.2.2.2.1;have Ac8:=hn.1.2.1;have hs6:=hn.2.1;have DD:=P4 H8;obtain ⟨c,hc⟩:∃c:Nat,cellsV n=(c:Int):=⟨(cellsV n).toNat,by unfold cellsV;omega⟩;have VD:c<=48:=by unfold cellsV at hc;omega
 have hS:=hS c hc.symm;have hsr:=O6 (List.replicate c false) H8 n.spurs.length (Ai _);rw[Ar] at hsr;rw[hc] at hC ⊢;rw[Ab];generalize slotsV (List.replicate c false) n.spurs=S at*;rw[OA] at hG;refine B1 func21 rfl p8 (by simp[Tryz.f21]) ?_;simp only[go_sem,Nt.cs];refine Cq ((hV)) ?_;simp only[go_sem,Nt.cs];refine CG mixed (p:=[(0,0),(1,0),(2,0),(3,0),(4,0),(5,1),(6,2),(7,0),(8,0),(9,0),(10,0),(11,0),(12,0),(13,0)]) (by kernel_rfl) (by simp[C8,get]) ?_;simp only[go_sem,Nt.cs,Ci,Ab,Bi,Zh];refine ⟨by omega,?_⟩;refine Aq7 hG ?_;rintro h' r ⟨rfl,o,rfl,ho⟩;simp only[go_sem,Nt.cs];refine CG mixed (p:=[(0,0),(1,0),(2,0),(3,0),(8,1),(4,2),(5,1),(6,2),(7,0),(9,3)]) (by kernel_rfl) (by simp[C8,get]) ?_;simp only[go_sem,Nt.cs];refine Gq ((hC)) ?_;simp only[go_sem,Nt.cs,Ab,Bi,Zh];refine ⟨by omega,?_⟩;refine Gq ((hS)) ?_;simp only[go_sem,Nt.cs];cases c1:decide (0<(o.length:Int))
 . simp only[go_sem,c1];refine BX ?_;simp only[go_sem];exact ⟨o,S,S,rfl,Bx _,rfl⟩
 . have VW:IntKind.i64.wrap ((o.length:Int) - 1)=(o.length:Int) - 1:=by rw[B3]<;>omega
   simp only[go_sem,c1,VW];refine BX ?_;simp only[go_sem];exact ⟨o,S,_,rfl,by omega,rfl⟩
def Sh(s:Da):List Int:=if s.CE=true then (List.range s.Cs.toNat).map (λ j=>s.base+((j:Nat):Int)) else []
def GQ(l:List Da):List Int:=l.flatMap Sh
theorem OI(l:List Da)(s:Da):GQ (l++[s])=GQ l++Sh s:=by simp[GQ]
theorem Wu{s:Da}{x:Int}:x∈Sh s↔Mu x s=true:=by
 unfold Sh Mu;by_cases h:s.CE=true
 . rw[if_pos h,h];simp only[AU,List.mem_range,A7,As,Au];constructor
   . rintro ⟨j,hj,rfl⟩;omega
   . rintro ⟨h1,h2⟩;exact ⟨(x - s.base).toNat,by omega,by omega⟩
 . have h2:s.CE=false:=by simpa using h
   rw[if_neg h,h2];simp
theorem Zp(s:Da):(Sh s).Nodup:=by
 unfold Sh;split
 . rw[List.nodup_iff_pairwise_ne,List.pairwise_map];exact (List.pairwise_lt_range).imp λ h=>by omega
 . exact List.nodup_nil
theorem Sf{nb:Nat}{l:List Da}(h:EE nb l):∀k,k<=l.length->(GQ (l.take k)).Nodup/\∀x∈GQ (l.take k),x<(nb:Int)+Di (l.take k)
 | 0,_=>by simp[GQ]
 | k+1,hk=>by
   obtain ⟨h1,h2⟩:=Sf h k (by omega);have hs:=h k (by omega);rw[CI l k Cu (by omega),OI,D9];generalize l.getD k Cu=s at*;obtain ⟨_,_,_,_,h5,h6,h7⟩:=hs;have hm:∀x∈Sh s,s.base<=x/\x<s.base+s.Cs:=λ x hx=>by
     have:=Wu.1 hx;unfold Mu at this;simp at this;exact ⟨this.2.1,this.2.2⟩
   refine ⟨?_,λ x hx=>?_⟩
   . rw[BQ];refine ⟨h1,Zp s,λ x hx y hy e=>?_⟩;have h8:=h2 x hx;have h9:=hm y hy;omega
   . rcases Aw.1 hx with hx | hx
     . have:=h2 x hx;omega
     . have:=hm x hx;omega
theorem Amt(c k:Nat):(List.replicate c false).getD k false=false:=by
 simp only[List.getD,Bo];split<;>rfl
theorem Afn(c:Nat)(s:Da):M5 (List.replicate c false) s=true:=by
 unfold M5;simp only[Amt];simp
theorem Sd{nb:Nat}{l:List Da}(h:EE nb l)(c:Nat):∀k,k<=l.length->slotsV (List.replicate c false) (l.take k)=((GQ (l.take k)).length:Int)
 | 0,_=>by simp[slotsV,GQ]
 | k+1,hk=>by
   have h1:=Sd h c k (by omega);have hs:=h k (by omega);rw[CI l k Cu (by omega),MK,OI,Aq,h1,Afn];obtain ⟨_,_,_,_,h5,h6,h7⟩:=hs;generalize l.getD k Cu=s at*;unfold Sh;cases hd:s.CE
   . simp
   . simp;omega
theorem Agq{nb:Nat}{l:List Da}(h:EE nb l)(c:Nat){rb:List Int}(hr:(rb.length:Int)<slotsV (List.replicate c false) l):∃s∈l,∃j:Nat,s.CE=true/\(j:Int)<s.Cs/\s.base+(j:Int)∉rb:=by
 have h1:=Sd h c l.length (Ai _);have h2:=(Sf h l.length (Ai _)).1;rw[Ar] at h1 h2;have Dt:¬∀x∈GQ l,x∈rb:=λ hh=>by have:=Al5 _ rb h2 hh;omega
 have:∃x,x∈GQ l/\x∉rb:=Classical.byContradiction λ hc=>Dt λ x hx=>Classical.byContradiction λ HT=>hc ⟨x,hx,HT⟩;obtain ⟨x,hx,HT⟩:=this;obtain ⟨s,hs,IE⟩:=BU.1 hx;have h3:=Wu.1 IE;unfold Mu at h3;simp at h3;exact ⟨s,hs,(x - s.base).toNat,h3.1,by omega,by rw[show s.base+(((x - s.base).toNat:Nat):Int)=x by omega];exact HT⟩
def RP(b i:Nat)(r:List Int):Prop:=r.Pairwise (· < ·)/\(∀x∈r,0<=x/\x<(b:Int)/\x≠(i:Int))/\r.length<=4/\(1<b->(((i+1) % b:Nat):Int)∈r)
theorem RP.row{b i:Nat}{r:List Int}(h:RP b i r):Ip b i r:=by
 intro k hk;obtain ⟨h1,h2,_,_⟩:=h;have h3:=h2 _ (CF r k 0 hk);refine ⟨h3.1,h3.2.1,h3.2.2,λ Hn=>?_⟩;rw[getD_eq hk,getD_eq (show k - 1<r.length by omega)];exact List.pairwise_iff_getElem.1 h1 (k - 1) k (by omega) hk (by omega)
theorem RP.ins{b i:Nat}{r:List Int}{x:Int}(h:RP b i r)(h0:0<=x)(hb:x<(b:Int))(hi:x≠(i:Int))(hn:x∉r)(hl:r.length<4):RP b i (K7 r x):=by
 obtain ⟨h1,h2,h3,h4⟩:=h;refine ⟨Aly r x h1 hn,λ y hy=>?_,by rw[Alx];omega,λ SD=>(Ul r x _).2 (.inr (h4 SD))⟩;rcases (Ul r x y).1 hy with rfl | hy
 . exact ⟨h0,hb,hi⟩
 . exact h2 y hy
theorem Lm(l:List (List Int))(i:Nat):((Cj l)[i]?.getD []).tail=[]:=by
 unfold Cj;rw[AS];cases l[i]?<;>rfl
theorem Aqv(l:List Int)(at_ b:Nat)(bl:List Et)(nx:List (List Int))(Jr:at_<1000000)(SD:1<=b)(hb:b<=10)(S6:bl.length=b)(hnx:nx.length=b)(Bc4:∀i,i<b->nx.getD i []=[]):
   B2 prog 57 [.ptr 1000000 0,.ptr 1000001 0]
     [(1000000,.box (Dm l at_)),(1000001,.box [.ref 1000002 0 b b,.ref 1000003 0 b b,.cl [],.cl [],.p (.int .i64 0),.p (.int .i64 0),.p (.int .i64 0),.p (.int .i64 0)]),(1000002,.arr 76 3 (CX bl)),(1000003,.arr 22 1 (Cj nx))]
     λ h r=>∃at2 nx2,at2<=at_+20/\nx2.length=b/\(∀i,i<b->RP b i (nx2.getD i []))/\r= .Dv []/\
       h=[(1000000,.box (Dm l at2)),(1000001,.box [.ref 1000002 0 b b,.ref 1000003 0 b b,.cl [],.cl [],.p (.int .i64 0),.p (.int .i64 0),.p (.int .i64 0),.p (.int .i64 0)]),(1000002,.arr 76 3 (CX bl)),(1000003,.arr 22 1 (Cj nx2))]:=by
 refine B1 func57 rfl Ans (by simp[Tryz.f57]) ?_;simp only[go_sem,Dm];refine ⟨by rw[Ci];exact S6.symm,?_⟩;refine B7 (λ q:Nat×List (List Int)=>⟨[(0,.ptr 1000000 0),(1,.ptr 1000001 0),(4,.p (.int .i64 (b:Nat))),(5,.p (.int .i64 (q.1:Nat)))],
     [(1000000,.box [.p (.sl (BZ l)),.p (.int .i64 (at_:Nat))]),(1000001,.box [.ref 1000002 0 b b,.ref 1000003 0 b b,.cl [],.cl [],.p (.int .i64 0),.p (.int .i64 0),.p (.int .i64 0),.p (.int .i64 0)]),(1000002,.arr 76 3 (CX bl)),(1000003,.arr 22 1 (Cj q.2))],98⟩)
   (λ q=>q.1<=b/\q.2.length=b/\(∀j,j<q.1->RP b j (q.2.getD j []))/\(∀j,q.1<=j->j<b->q.2.getD j []=[])) (λ q=>b - q.1) (0,nx) ⟨AE _,hnx,λ j hj=>absurd hj (A0 _),λ j _ hj=>Bc4 j hj⟩ (BW (by simp[ZF,Cj])) ?_
 rintro ⟨i,g⟩ m ⟨hi,hgl,Ami,Am7⟩ ih;simp only at hi hgl Ami Am7;cases c1:decide ((i:Int)<(b:Int));rotate_left
 . cases c2:decide (1<(b:Int));rotate_left
   . have hib:i<b:=by have:=Ad c1;omega
     have W1:1<b:=by have:=Ad c2;omega
     have hw:=Cd i (by omega);have V1:((i+1:Nat):Int).tmod (b:Int)=(((i+1) % b:Nat):Int):=by rw[Int.tmod_eq_emod_of_nonneg (by omega)];omega
     have Dt:¬(b:Int)=0:=by omega
     have C6:(0:Int)<=(i:Int)/\(i:Int)<(b:Int):=by omega
     simp only[go_sem,c1,c2];refine CG mixed (p:=[(0,0),(1,0),(2,0),(3,0),(4,0),(5,0),(6,0),(7,0),(8,0),(9,1),(10,0),(11,3)]) (by kernel_rfl) (by simp[C8,get]) ?_;simp only[go_sem,hw,V1,Dt,Cf,hgl,Ab,C6];refine ih (i+1,g.set i [(((i+1) % b:Nat):Int)]) _ ⟨hib,by simpa using hgl,λ j hj=>?_,λ j hj hjb=>?_⟩ (by simp only;omega) ?_
     . rw[D7];by_cases e:i=j
       . subst e;rw[if_pos ⟨rfl,by omega⟩];have hm:(i+1) % b<b:=Nat.mod_lt _ (by omega);have S3:(i+1) % b≠i:=by
           intro h;rcases Nat.lt_or_ge (i+1) b with h5 | h5
           . rw[Nat.mod_eq_of_lt h5] at h;omega
           . have:i+1=b:=by omega
             rw[this,Nat.mod_self] at h;omega
         refine ⟨List.pairwise_singleton _ _,λ x hx=>?_,by simp,λ _=>by simp⟩;rw[Ay] at hx;subst hx;omega
       . rw[if_neg (λ h=>e h.1)];exact Ami j (by omega)
     . rw[D7,if_neg (by omega)];exact Am7 j (by omega) hjb
     . (refine BW ?_;simp[ZF,NF,Lm,BZ];done)
   . have hb0:b=1:=by have:=Ae c2;omega
     have Ii:i=0:=by have:=Ad c1;omega
     have hRP:∀u,u<b->RP b u (g.getD u []):=λ u hu=>by
       rw[Am7 u (by omega) hu];exact ⟨List.Pairwise.nil,λ x hx=>absurd hx (by simp),by simp,λ h=>absurd h (by omega)⟩
     simp only[go_sem,c1,c2];refine Cq ((Dd l at_ 4 (by omega) (CL _ (by omega) (by omega)))) ?_;obtain ⟨k0,Hn,hk4⟩:=CZ l at_ 4 (by omega);simp only[go_sem,Dm,Hn];refine B7 (λ q:Nat×Nat×List (List Int)=>⟨[(0,.ptr 1000000 0),(1,.ptr 1000001 0),(4,.p (.int .i64 (b:Nat))),(6,.p (.int .i64 (q.1:Nat)))],
         [(1000000,.box [.p (.sl (BZ l)),.p (.int .i64 (q.2.1:Nat))]),(1000001,.box [.ref 1000002 0 b b,.ref 1000003 0 b b,.cl [],.cl [],.p (.int .i64 0),.p (.int .i64 0),.p (.int .i64 0),.p (.int .i64 0)]),(1000002,.arr 76 3 (CX bl)),(1000003,.arr 22 1 (Cj q.2.2))],98⟩)
       (λ q=>q.1<=3/\q.2.1<=at_+1+3*(3 - q.1)/\q.2.2.length=b/\∀i,i<b->RP b i (q.2.2.getD i [])) (λ q=>q.1) (k0,at_+1,g) ⟨by simp only;omega,by simp only;omega,hgl,hRP⟩ (BW (by simp[ZF,Cj])) ?_
     rintro ⟨k,a,g2⟩ m2 ⟨hk3,Hx,E3,HF⟩ Hw;simp only at hk3 Hx E3 HF;cases d1:decide (0<(k:Int))
     . simp only[go_sem,d1];refine Cp ?_;simp only[go_sem];refine ⟨a,g2,by omega,E3,HF,?_⟩;first | exact ⟨rfl,rfl⟩ | rfl | simp
     cases d2:decide (2<(b:Int))
     . simp only[go_sem,d1,d2];refine Cp ?_;simp only[go_sem];refine ⟨a,g2,by omega,E3,HF,?_⟩;first | exact ⟨rfl,rfl⟩ | rfl | simp
     have hkp:1<=k:=by have:=Ad d1;omega
     obtain ⟨k,rfl⟩:∃j,k=j+1:=⟨k - 1,by omega⟩;have GO:=HZ k (by omega);have hb3:2<b:=by have:=Ad d2;omega
     have hbz:(0:Int)<(b:Int):=by omega
     obtain ⟨ii,hii,Bbw⟩:=CZ l a b hbz;obtain ⟨jj,hjj,Bbv⟩:=CZ l (a+1) b hbz;have Ku:(0:Int)<=(ii:Int)/\(ii:Int)<(b:Int):=by omega
     have IG:=Gx g2 ii (by omega);have hRl:=(HF ii (by omega)).2.2.1;simp only[go_sem,d1,d2];refine Cq ((Dd l a b (by omega) (CL _ (by omega) (by omega)))) ?_;simp only[go_sem,Dm,hii];refine Cq ((Dd l (a+1) b (by omega) (CL _ (by omega) (by omega)))) ?_;simp only[go_sem,Dm,hjj];refine Cq ((Dd l (a+1+1) 3 (by omega) (CL _ (by omega) (by omega)))) ?_;simp only[go_sem,Dm];have Uw:(((ii:Int)+2)).tmod (b:Int)=(((ii+2) % b:Nat):Int):=by
       rw[show (ii:Int)+2=((ii+2:Nat):Int) by omega,Int.tmod_eq_emod_of_nonneg (by omega)];exact (Int.natCast_emod _ _).symm
     have WX:IntKind.i64.wrap ((ii:Int)+2)=(ii:Int)+2:=by rw[B3]<;>omega
     have Amm:¬(b:Int)=0:=by omega
     have S3:(ii+2) % b<b:=Nat.mod_lt _ (by omega);cases d3:decide (0<M7 l (a+1+1) 3)
     . skip
       have hJ0:(0:Int)<=((jj:Nat):Int)/\((jj:Nat):Int)<(b:Int):=by omega
       cases d4:decide ((ii:Int)=((jj:Nat):Int));rotate_left
       . simp only[go_sem,d3,GO,d4,GO];refine Hw (k,a+1+1+1,g2) _ ⟨by simp only;omega,by simp only;omega,E3,HF⟩ (by simp only;omega) ?_
         (refine BW ?_;simp[ZF];done)
       simp only[go_sem,d3,GO,d4,Cf,E3,Ab,IG,Ku];refine Cq ((Np (g2.getD ii []) ((jj:Nat):Int) (by omega))) ?_;cases d5:decide (((jj:Nat):Int)∈g2.getD ii []);rotate_left
       . simp only[go_sem,d5,GO];refine Hw (k,a+1+1+1,g2) _ ⟨by simp only;omega,by simp only;omega,E3,HF⟩ (by simp only;omega) ?_
         (refine BW ?_;simp[ZF];done)
       cases d6:decide (((g2.getD ii []).length:Int)<4)
       . simp only[go_sem,d5,Cf,BY,E3,Ab,IG,Ku,d6,GO];refine Hw (k,a+1+1+1,g2) _ ⟨by simp only;omega,by simp only;omega,E3,HF⟩ (by simp only;omega) ?_
         (refine BW ?_;simp[ZF];done)
       simp only[go_sem,d5,Cf,BY,E3,Ab,IG,Ku,d6];refine CG mixed (p:=[(0,0),(1,0),(2,0),(3,0),(4,0),(5,0),(6,0),(7,0),(8,0),(9,0),(10,0),(11,0),(12,0),(13,2),(14,0),(15,3)]) (by kernel_rfl) (by simp[C8,get]) ?_;simp only[go_sem,Cf,BY,E3,Ab,IG,Ku];refine Gq ((N6 (g2.getD ii []) ((jj:Nat):Int) (by omega))) ?_;simp only[go_sem,Cf,E3,Ab,Ku,GO];refine Hw (k,a+1+1+1,g2.set ii (K7 (g2.getD ii []) ((jj:Nat):Int))) _ ⟨by simp only;omega,by simp only;omega,by simpa using E3,λ u hu=>?_⟩ (by simp only;omega) ?_
       . rw[D7];by_cases e:ii=u
         . subst e;rw[if_pos ⟨rfl,by omega⟩];exact (HF ii hu).ins hJ0.1 hJ0.2 (λ h=>Ae d4 h.symm) (Ae d5) (by have:=Ad d6;omega)
         . rw[if_neg (λ h=>e h.1)];exact HF u hu
       . (refine BW ?_;simp[ZF,NF,Lm];done)
     . generalize (ii+2) % b=J at Uw S3;have hJ0:(0:Int)<=((J:Nat):Int)/\((J:Nat):Int)<(b:Int):=by omega
       cases d4:decide ((ii:Int)=((J:Nat):Int));rotate_left
       . simp only[go_sem,d3,WX,Uw,Amm,d4,GO];refine Hw (k,a+1+1+1,g2) _ ⟨by simp only;omega,by simp only;omega,E3,HF⟩ (by simp only;omega) ?_
         (refine BW ?_;simp[ZF];done)
       simp only[go_sem,d3,WX,Uw,Amm,d4,Cf,E3,Ab,IG,Ku];refine Cq ((Np (g2.getD ii []) ((J:Nat):Int) (by omega))) ?_;cases d5:decide (((J:Nat):Int)∈g2.getD ii []);rotate_left
       . simp only[go_sem,d5,GO];refine Hw (k,a+1+1+1,g2) _ ⟨by simp only;omega,by simp only;omega,E3,HF⟩ (by simp only;omega) ?_
         (refine BW ?_;simp[ZF];done)
       cases d6:decide (((g2.getD ii []).length:Int)<4)
       . simp only[go_sem,d5,Cf,BY,E3,Ab,IG,Ku,d6,GO];refine Hw (k,a+1+1+1,g2) _ ⟨by simp only;omega,by simp only;omega,E3,HF⟩ (by simp only;omega) ?_
         (refine BW ?_;simp[ZF];done)
       simp only[go_sem,d5,Cf,BY,E3,Ab,IG,Ku,d6];refine CG mixed (p:=[(0,0),(1,0),(2,0),(3,0),(4,0),(5,0),(6,0),(7,0),(8,0),(9,0),(10,0),(11,0),(12,0),(13,2),(14,0),(15,3)]) (by kernel_rfl) (by simp[C8,get]) ?_;simp only[go_sem,Cf,BY,E3,Ab,IG,Ku];refine Gq ((N6 (g2.getD ii []) ((J:Nat):Int) (by omega))) ?_;simp only[go_sem,Cf,E3,Ab,Ku,GO];refine Hw (k,a+1+1+1,g2.set ii (K7 (g2.getD ii []) ((J:Nat):Int))) _ ⟨by simp only;omega,by simp only;omega,by simpa using E3,λ u hu=>?_⟩ (by simp only;omega) ?_
       . rw[D7];by_cases e:ii=u
         . subst e;rw[if_pos ⟨rfl,by omega⟩];exact (HF ii hu).ins hJ0.1 hJ0.2 (λ h=>Ae d4 h.symm) (Ae d5) (by have:=Ad d6;omega)
         . rw[if_neg (λ h=>e h.1)];exact HF u hu
       . (refine BW ?_;simp[ZF,NF,Lm];done)
 . have W0:i=b:=by have:=Ae c1;omega
   have hRP:∀u,u<b->RP b u (g.getD u []):=λ u hu=>Ami u (by omega);simp only[go_sem,c1,c1];refine Cq ((Dd l at_ 4 (by omega) (CL _ (by omega) (by omega)))) ?_;obtain ⟨k0,Hn,hk4⟩:=CZ l at_ 4 (by omega);simp only[go_sem,Dm,Hn];refine B7 (λ q:Nat×Nat×List (List Int)=>⟨[(0,.ptr 1000000 0),(1,.ptr 1000001 0),(4,.p (.int .i64 (b:Nat))),(6,.p (.int .i64 (q.1:Nat)))],
       [(1000000,.box [.p (.sl (BZ l)),.p (.int .i64 (q.2.1:Nat))]),(1000001,.box [.ref 1000002 0 b b,.ref 1000003 0 b b,.cl [],.cl [],.p (.int .i64 0),.p (.int .i64 0),.p (.int .i64 0),.p (.int .i64 0)]),(1000002,.arr 76 3 (CX bl)),(1000003,.arr 22 1 (Cj q.2.2))],98⟩)
     (λ q=>q.1<=3/\q.2.1<=at_+1+3*(3 - q.1)/\q.2.2.length=b/\∀i,i<b->RP b i (q.2.2.getD i [])) (λ q=>q.1) (k0,at_+1,g) ⟨by simp only;omega,by simp only;omega,hgl,hRP⟩ (BW (by simp[ZF,Cj])) ?_
   rintro ⟨k,a,g2⟩ m2 ⟨hk3,Hx,E3,HF⟩ Hw;simp only at hk3 Hx E3 HF;cases d1:decide (0<(k:Int))
   . simp only[go_sem,d1];refine Cp ?_;simp only[go_sem];refine ⟨a,g2,by omega,E3,HF,?_⟩;first | exact ⟨rfl,rfl⟩ | rfl | simp
   cases d2:decide (2<(b:Int))
   . simp only[go_sem,d1,d2];refine Cp ?_;simp only[go_sem];refine ⟨a,g2,by omega,E3,HF,?_⟩;first | exact ⟨rfl,rfl⟩ | rfl | simp
   have hkp:1<=k:=by have:=Ad d1;omega
   obtain ⟨k,rfl⟩:∃j,k=j+1:=⟨k - 1,by omega⟩;have GO:=HZ k (by omega);have hb3:2<b:=by have:=Ad d2;omega
   have hbz:(0:Int)<(b:Int):=by omega
   obtain ⟨ii,hii,Bbw⟩:=CZ l a b hbz;obtain ⟨jj,hjj,Bbv⟩:=CZ l (a+1) b hbz;have Ku:(0:Int)<=(ii:Int)/\(ii:Int)<(b:Int):=by omega
   have IG:=Gx g2 ii (by omega);have hRl:=(HF ii (by omega)).2.2.1;simp only[go_sem,d1,d2];refine Cq ((Dd l a b (by omega) (CL _ (by omega) (by omega)))) ?_;simp only[go_sem,Dm,hii];refine Cq ((Dd l (a+1) b (by omega) (CL _ (by omega) (by omega)))) ?_;simp only[go_sem,Dm,hjj];refine Cq ((Dd l (a+1+1) 3 (by omega) (CL _ (by omega) (by omega)))) ?_;simp only[go_sem,Dm];have Uw:(((ii:Int)+2)).tmod (b:Int)=(((ii+2) % b:Nat):Int):=by
     rw[show (ii:Int)+2=((ii+2:Nat):Int) by omega,Int.tmod_eq_emod_of_nonneg (by omega)];exact (Int.natCast_emod _ _).symm
   have WX:IntKind.i64.wrap ((ii:Int)+2)=(ii:Int)+2:=by rw[B3]<;>omega
   have Amm:¬(b:Int)=0:=by omega
   have S3:(ii+2) % b<b:=Nat.mod_lt _ (by omega);cases d3:decide (0<M7 l (a+1+1) 3)
   . skip
     have hJ0:(0:Int)<=((jj:Nat):Int)/\((jj:Nat):Int)<(b:Int):=by omega
     cases d4:decide ((ii:Int)=((jj:Nat):Int));rotate_left
     . simp only[go_sem,d3,GO,d4,GO];refine Hw (k,a+1+1+1,g2) _ ⟨by simp only;omega,by simp only;omega,E3,HF⟩ (by simp only;omega) ?_
       (refine BW ?_;simp[ZF];done)
     simp only[go_sem,d3,GO,d4,Cf,E3,Ab,IG,Ku];refine Cq ((Np (g2.getD ii []) ((jj:Nat):Int) (by omega))) ?_;cases d5:decide (((jj:Nat):Int)∈g2.getD ii []);rotate_left
     . simp only[go_sem,d5,GO];refine Hw (k,a+1+1+1,g2) _ ⟨by simp only;omega,by simp only;omega,E3,HF⟩ (by simp only;omega) ?_
       (refine BW ?_;simp[ZF];done)
     cases d6:decide (((g2.getD ii []).length:Int)<4)
     . simp only[go_sem,d5,Cf,BY,E3,Ab,IG,Ku,d6,GO];refine Hw (k,a+1+1+1,g2) _ ⟨by simp only;omega,by simp only;omega,E3,HF⟩ (by simp only;omega) ?_
       (refine BW ?_;simp[ZF];done)
     simp only[go_sem,d5,Cf,BY,E3,Ab,IG,Ku,d6];refine CG mixed (p:=[(0,0),(1,0),(2,0),(3,0),(4,0),(5,0),(6,0),(7,0),(8,0),(9,0),(10,0),(11,0),(12,0),(13,2),(14,0),(15,3)]) (by kernel_rfl) (by simp[C8,get]) ?_;simp only[go_sem,Cf,BY,E3,Ab,IG,Ku];refine Gq ((N6 (g2.getD ii []) ((jj:Nat):Int) (by omega))) ?_;simp only[go_sem,Cf,E3,Ab,Ku,GO];refine Hw (k,a+1+1+1,g2.set ii (K7 (g2.getD ii []) ((jj:Nat):Int))) _ ⟨by simp only;omega,by simp only;omega,by simpa using E3,λ u hu=>?_⟩ (by simp only;omega) ?_
     . rw[D7];by_cases e:ii=u
       . subst e;rw[if_pos ⟨rfl,by omega⟩];exact (HF ii hu).ins hJ0.1 hJ0.2 (λ h=>Ae d4 h.symm) (Ae d5) (by have:=Ad d6;omega)
       . rw[if_neg (λ h=>e h.1)];exact HF u hu
     . (refine BW ?_;simp[ZF,NF,Lm];done)
   . generalize (ii+2) % b=J at Uw S3;have hJ0:(0:Int)<=((J:Nat):Int)/\((J:Nat):Int)<(b:Int):=by omega
     cases d4:decide ((ii:Int)=((J:Nat):Int));rotate_left
     . simp only[go_sem,d3,WX,Uw,Amm,d4,GO];refine Hw (k,a+1+1+1,g2) _ ⟨by simp only;omega,by simp only;omega,E3,HF⟩ (by simp only;omega) ?_
       (refine BW ?_;simp[ZF];done)
     simp only[go_sem,d3,WX,Uw,Amm,d4,Cf,E3,Ab,IG,Ku];refine Cq ((Np (g2.getD ii []) ((J:Nat):Int) (by omega))) ?_;cases d5:decide (((J:Nat):Int)∈g2.getD ii []);rotate_left
     . simp only[go_sem,d5,GO];refine Hw (k,a+1+1+1,g2) _ ⟨by simp only;omega,by simp only;omega,E3,HF⟩ (by simp only;omega) ?_
       (refine BW ?_;simp[ZF];done)
     cases d6:decide (((g2.getD ii []).length:Int)<4)
     . simp only[go_sem,d5,Cf,BY,E3,Ab,IG,Ku,d6,GO];refine Hw (k,a+1+1+1,g2) _ ⟨by simp only;omega,by simp only;omega,E3,HF⟩ (by simp only;omega) ?_
       (refine BW ?_;simp[ZF];done)
     simp only[go_sem,d5,Cf,BY,E3,Ab,IG,Ku,d6];refine CG mixed (p:=[(0,0),(1,0),(2,0),(3,0),(4,0),(5,0),(6,0),(7,0),(8,0),(9,0),(10,0),(11,0),(12,0),(13,2),(14,0),(15,3)]) (by kernel_rfl) (by simp[C8,get]) ?_;simp only[go_sem,Cf,BY,E3,Ab,IG,Ku];refine Gq ((N6 (g2.getD ii []) ((J:Nat):Int) (by omega))) ?_;simp only[go_sem,Cf,E3,Ab,Ku,GO];refine Hw (k,a+1+1+1,g2.set ii (K7 (g2.getD ii []) ((J:Nat):Int))) _ ⟨by simp only;omega,by simp only;omega,by simpa using E3,λ u hu=>?_⟩ (by simp only;omega) ?_
     . rw[D7];by_cases e:ii=u
       . subst e;rw[if_pos ⟨rfl,by omega⟩];exact (HF ii hu).ins hJ0.1 hJ0.2 (λ h=>Ae d4 h.symm) (Ae d5) (by have:=Ad d6;omega)
       . rw[if_neg (λ h=>e h.1)];exact HF u hu
     . (refine BW ?_;simp[ZF,NF,Lm];done)
def Acl(i:Nat):List UInt8:=if i<10 then [UInt8.ofNat (48+i)] else [UInt8.ofNat (48+i / 10),UInt8.ofNat (48+i % 10)]
theorem Ap0(i:Nat)(h:i<100):IT i=Acl i:=by
 unfold Acl;by_cases h1:i<10
 . rw[if_pos h1,Hb i h1]
 . rw[if_neg h1,NG i h1,Hb (i / 10) (by omega)];rfl
theorem Aoz:∀i,i<24->∀j,j<24->Acl i=Acl j->i=j:=by decide
theorem Ard:∀i,i<24->C3 (98::Acl i)=true:=by decide
theorem Arc:∀i,i<24->C3 (115::Acl i)=true:=by decide
structure Apy(n:Nt):Prop where
 nb:1<=n.blocks.length/\n.blocks.length<=10
 bl:∀i,i<n.blocks.length->(n.blocks.getD i FR).name=98::IT i/\YS (n.blocks.getD i FR)
 nl:n.next.length=n.blocks.length
 nx:∀i,i<n.blocks.length->RP n.blocks.length i (n.next.getD i [])
 ns:3<=n.spurs.length/\n.spurs.length<=5
 sp:∀i,i<n.spurs.length->(n.spurs.getD i Cu).name=115::IT i/\(i=0->(n.spurs.getD i Cu).CE=true)/\(i=1∨i=2->(n.spurs.getD i Cu).CE=false)
 ss:EE n.blocks.length n.spurs
 rl:n.B6.length<=3
 rb:ER n.spurs n.B6
 cf:IV n.cq n.ca n.cd n.cp
theorem Abf{n:Nt}(i:Nat)(hi:i<(Ds n).length):(Ds n).getD i []=if i<n.blocks.length then (n.blocks.getD i FR).name else (n.spurs.getD (i - n.blocks.length) Cu).name:=by
 have hl:(Ds n).length=n.blocks.length+n.spurs.length:=by simp[Ds]
 have Ea:i<n.blocks.length+n.spurs.length:=by omega
 rw[getD_eq hi];unfold Ds at hi ⊢;by_cases h:i<n.blocks.length
 . rw[if_pos h,List.getElem_append_left (by simpa using h),List.getElem_map,getD_eq h]
 . rw[if_neg h,List.getElem_append_right (by simpa using h),List.getElem_map,getD_eq (show i - n.blocks.length<n.spurs.length by omega)];simp
theorem Apy.valid{n:Nt}(h:Apy n):validN n:=by
 obtain ⟨nb,bl,nl,nx,ns,sp,ss,rl,rb,cf⟩:=h;refine ⟨⟨nb.1,by omega,nl,λ i hi=>⟨(bl i hi).2,(nx i hi).2.2.1,(nx i hi).row⟩⟩,by omega,λ i hi=>?_,by omega,cf,ss,rb,?_⟩
 . have hl:(Ds n).length=n.blocks.length+n.spurs.length:=by simp[Ds]
   have key:∀j,j<(Ds n).length->∃c d,(Ds n).getD j []=c::Acl d/\d<24/\((j<n.blocks.length/\c=98/\d=j)∨(n.blocks.length<=j/\c=115/\d=j - n.blocks.length)):=by
     intro j hj;rw[Abf j hj];by_cases h1:j<n.blocks.length
     . rw[if_pos h1,(bl j h1).1,Ap0 j (by omega)];exact ⟨98,j,rfl,by omega,.inl ⟨h1,rfl,rfl⟩⟩
     . rw[if_neg h1,(sp (j - n.blocks.length) (by omega)).1,Ap0 _ (by omega)];exact ⟨115,j - n.blocks.length,rfl,by omega,.inr ⟨by omega,rfl,rfl⟩⟩
   obtain ⟨c,d,h1,h2,h3⟩:=key i hi;refine ⟨?_,λ k hk=>?_⟩
   . rw[h1];rcases h3 with ⟨_,rfl,_⟩ | ⟨_,rfl,_⟩
     . exact Ard d h2
     . exact Arc d h2
   . obtain ⟨c2,d2,h4,h5,h6⟩:=key k (by omega);rw[h1,h4];intro he;rw[List.cons.injEq] at he;have hd:=Aoz d h2 d2 h5 he.2;rcases h3 with ⟨_,rfl,rfl⟩ | ⟨_,rfl,rfl⟩<;>rcases h6 with ⟨_,rfl,rfl⟩ | ⟨_,rfl,rfl⟩
     . omega
     . exact absurd he.1 (by decide)
     . exact absurd he.1 (by decide)
     . omega
 . have h0:=(sp 0 (by omega)).2.1 rfl;rw[List.length_filter_pos_iff];exact ⟨_,CF n.spurs 0 Cu (by omega),h0⟩
theorem Ia{α:Type}(l:List α)(x y:α)(i:Nat):(l++[x]).getD i y=if i<l.length then l.getD i y else if i=l.length then x else y:=by
 simp only[List.getD];by_cases h:i<l.length
 . rw[if_pos h,AW h]
 . rw[if_neg h,A1 (by omega)];by_cases h2:i=l.length
   . rw[if_pos h2,h2];simp
   . rw[if_neg h2];have:1<=i - l.length:=by omega
     obtain ⟨m,hm⟩:∃m,i - l.length=m+1:=⟨i - l.length - 1,by omega⟩;rw[hm];simp
def Avx(bl:List Et):Prop:=∀i,i<bl.length->(bl.getD i FR).name=98::IT i/\YS (bl.getD i FR)
theorem Aj2{bl:List Et}(h:Avx bl)(x y:Int)(hx:-4<=x/\x<=4)(hy:-4<=y/\y<=4):Avx (bl++[⟨98::IT bl.length,x,y⟩]):=by
 intro i hi;rw[Ia];by_cases h1:i<bl.length
 . rw[if_pos h1];exact h i h1
 . have h2:i=bl.length:=by simp at hi;omega
   rw[if_neg h1,if_pos h2,h2];exact ⟨rfl,by unfold YS;simp only;omega⟩
def Zl(nb:Nat)(l:List Da):Prop:=∀i,i<l.length->(l.getD i Cu).name=115::IT i/\(i=0->(l.getD i Cu).CE=true)/\(i=1∨i=2->(l.getD i Cu).CE=false)/\Mh nb (nb+Di (l.take i)) (l.getD i Cu)
theorem Jb{sp:List Da}{rb:List Int}{x:Int}(h:ER sp rb)(h1:sp.any (Mu x)=true)(h2:x∉rb):ER sp (rb++[x]):=by
 intro i hi;rw[Ia];by_cases h3:i<rb.length
 . rw[if_pos h3,List.take_append_of_le_length (by omega)];exact h i h3
 . have h4:i=rb.length:=by simp at hi;omega
   subst h4;rw[if_neg h3,if_pos rfl,List.take_left' rfl];exact ⟨h1,h2⟩
theorem Zl.spurs{nb:Nat}{l:List Da}(h:Zl nb l):EE nb l:=λ i hi=>(h i hi).2.2.2
theorem Zl.rng{nb:Nat}{l:List Da}(h:Zl nb l):0<=Di l/\Di l<=4*l.length:=P4 h.spurs
theorem Zl.snoc{nb:Nat}{l:List Da}(h:Zl nb l)(dp:Bool)(x y z:Int)(hx:0<=x/\x<(nb:Int))(hy:0<=y/\y<(nb:Int))(hz:1<=z/\z<=4)(h0:l.length=0->dp=true)(h1:l.length=1∨l.length=2->dp=false):
   Zl nb (l++[⟨115::IT l.length,dp,x,y,z,(nb:Int)+Di l⟩]):=by
 intro i hi;rw[Ia];by_cases h2:i<l.length
 . rw[if_pos h2,List.take_append_of_le_length (by omega)];exact h i h2
 . have h3:i=l.length:=by simp at hi;omega
   subst h3;rw[if_neg h2,if_pos rfl,List.take_left' rfl];exact ⟨rfl,h0,h1,hx.1,hx.2,hy.1,hy.2,hz.1,hz.2,rfl⟩
def Nt.os(n:Nt):List D:=[.ref 0 0 n.blocks.length n.blocks.length,.ref 1 0 n.next.length n.next.length,.ref 2 0 n.spurs.length n.spurs.length,.ref 3 0 n.B6.length n.B6.length,.p (.int .i64 n.cq),.p (.int .i64 n.ca),.p (.int .i64 n.cd),.p (.int .i64 n.cp)]
theorem Ald(R:Nt->Int->Prop)(hR:∀n:Nt,validN n->B2 prog 21 [.agg n.cs] [] λ h r=>h=[]/\∃(o:List Int) (sl cap:Int),r= .Dv [.agg [.p (.int .i64 (o.length:Nat)),.p (.sl (BZ o)),.p (.int .i64 sl),.p (.int .i64 cap)],.p (.int .i64 0)]/\cap<=sl/\sl=slotsV (List.replicate (cellsV n).toNat false) n.spurs/\R n cap)
   (l:List Int) (at_ Pj:Nat) (Jr:at_<100000) (WY:1<=Pj) (S3:Pj<=10):
   B2 prog 24 [.ptr 1000000 0,.p (.int .i64 (Pj:Nat))] [(1000000,.box (Dm l at_))]
     λ h r=>∃at2 n,at2<=at_+200/\(Apy n/\∃cap,R {n with B6:=[]} cap/\(n.B6.length=0∨(n.B6.length:Int)<=cap))/\h=[(1000000,.box (Dm l at2)),(0,.arr 76 3 (CX n.blocks)),(1,.arr 22 1 (Cj n.next)),(2,.arr 68 6 (CR n.spurs)),(3,.arr 3 1 (BZ n.B6))]/\r= .agg n.os:=by
 refine B1 func24 rfl Aoe (by simp[Tryz.f24]) ?_;simp only[go_sem,Dm];refine Cq ((Dd l at_ Pj (by omega) (CL _ (by omega) (by omega)))) ?_;obtain ⟨k0,Hn,Pn⟩:=CZ l at_ Pj (by omega);have Axk:IntKind.i64.wrap (1+(k0:Int))=((k0+1:Nat):Int):=by rw[B3]<;>omega
 simp only[go_sem,Dm,Hn,Axk];refine B7 (λ q:Nat×Nat×List Et=>⟨[(0,.ptr 1000000 0),(4,.ptr 4 0),(5,.ptr 5 0),(6,.p (.int .i64 (q.1:Nat)))],
     [(1000000,.box [.p (.sl (BZ l)),.p (.int .i64 (q.2.1:Nat))]),(4,.box [.cl [],.cl [],.cl [],.cl [],.p (.int .i64 0),.p (.int .i64 0),.p (.int .i64 0),.p (.int .i64 0)]),
      (5,.box [.ref 43 0 q.2.2.length q.2.2.length,.ref 48 0 q.2.2.length q.2.2.length,.cl [],.cl [],.p (.int .i64 0),.p (.int .i64 0),.p (.int .i64 0),.p (.int .i64 0)]),(43,.arr 76 3 (CX q.2.2)),(48,.arr 22 1 (Cj (List.replicate q.2.2.length [])))],191⟩)
   (λ q=>q.1+q.2.2.length=k0+1/\q.2.1=at_+1+2*q.2.2.length/\Avx q.2.2) (λ q=>q.1) (k0+1,at_+1,[]) ⟨by simp,by simp,λ i hi=>by simp at hi⟩
   ((DC (id:=5) (j:=0) (q:=43) (sz:=3) 76 rfl rfl rfl (by decide)).trans ((DC (id:=5) (j:=1) (q:=48) (sz:=1) 22 rfl rfl rfl (by decide)).trans (BW (by simp[ZF,CX,Cj])))) ?_
 rintro ⟨k,a,bl⟩ m ⟨hk,ha,S6⟩ ih;simp only at hk ha S6;cases c1:decide (0<(k:Int));rotate_left
 . obtain ⟨k,rfl⟩:∃j,k=j+1:=⟨k - 1,by have:=Ad c1;omega⟩;have GO:=HZ k (by omega);obtain ⟨x,hx,hx9⟩:=CZ l a 9 (by omega);obtain ⟨y,hy,hy9⟩:=CZ l (a+1) 9 (by omega);have hwx:IntKind.i64.wrap ((x:Int) - 4)=(x:Int) - 4:=by rw[B3]<;>omega
   have hwy:IntKind.i64.wrap ((y:Int) - 4)=(y:Int) - 4:=by rw[B3]<;>omega
   have V4:=JV 15 bl.length (by omega);simp only[go_sem,c1,Ci];refine Dp [(5,.box [.ref 43 0 bl.length bl.length,.ref 48 0 bl.length bl.length,.cl [],.cl [],.p (.int .i64 0),.p (.int .i64 0),.p (.int .i64 0),.p (.int .i64 0)])] mixed (p:=[(0,0),(1,0),(2,0),(5,0),(8,0),(3,2),(4,0),(6,2),(7,0),(9,2),(10,0),(11,0),(12,1),(13,2),(14,0),(15,3)]) (by kernel_rfl) (by simp[C8,get]) ?_;simp only[go_sem];refine Gq ((Jv bl.length (by omega))) ?_;simp only[go_sem];refine ⟨by unfold maxLen;omega,?_⟩;refine Gq ((Dd l a 9 (by omega) (CL _ (by omega) (by omega)))) ?_;simp only[go_sem,Dm,hx,hwx];refine Gq ((Dd l (a+1) 9 (by omega) (CL _ (by omega) (by omega)))) ?_;simp only[go_sem,Dm,hy,hwy,Ci];refine ⟨⟨Dy _ _ rfl,by omega⟩,?_⟩;(try simp only[go_sem]);refine Aaj rfl Aeo Aep rfl rfl ?_;simp only[go_sem,Cf,Bi];refine ⟨⟨Dy _ _ rfl,by omega⟩,?_⟩;simp only[go_sem,GO];refine ih (k,a+1+1,bl++[⟨98::IT bl.length,(x:Int) - 4,(y:Int) - 4⟩]) _ ⟨by simp;omega,by simp;omega,Aj2 S6 _ _ (by omega) (by omega)⟩ (by simp only;omega) ?_
   (refine BW ?_;simp[ZF,Xn,Ci,Cj,BZ,List.replicate_succ'];done)
 have hkz:k=0:=by have:=Ae c1;omega
 subst hkz;have hnb:bl.length=k0+1:=by omega
 clear ih Axk;simp only[go_sem,c1,Ci];refine Em (Aqv l a bl.length bl (List.replicate bl.length []) (by omega) (by omega) (by omega) rfl (by simp) (λ i hi=>by simp[List.getD,hi])) ?_;rintro h' r ⟨a2,nx,ha2,OA,hnx,rfl,rfl⟩;have Bbp:1<=bl.length/\bl.length<=10:=by omega
 have ha3:a2<=at_+100:=by omega
 clear hk ha hnb Hn Pn ha2;simp only[go_sem,Dm,Ci];refine Cq ((Dd l a2 3 (by omega) (CL _ (by omega) (by omega)))) ?_;obtain ⟨k3,hk3,hk4⟩:=CZ l a2 3 (by omega);have Axj:IntKind.i64.wrap (3+(k3:Int))=((k3+3:Nat):Int):=by rw[B3]<;>omega
 simp only[go_sem,Dm,hk3,Axj];refine B7 (λ q:Nat×Nat×List Da=>⟨[(0,.ptr 1000000 0),(4,.ptr 4 0),(5,.ptr 5 0),(8,.p (.int .i64 ((bl.length:Int)+Di q.2.2))),(9,.p (.int .i64 (q.1:Nat)))],
     [(1000000,.box [.p (.sl (BZ l)),.p (.int .i64 (q.2.1:Nat))]),(4,.box [.cl [],.cl [],.cl [],.cl [],.p (.int .i64 0),.p (.int .i64 0),.p (.int .i64 0),.p (.int .i64 0)]),
      (5,.box [.ref 43 0 bl.length bl.length,.ref 48 0 bl.length bl.length,.ref 102 0 q.2.2.length q.2.2.length,.cl [],.p (.int .i64 0),.p (.int .i64 0),.p (.int .i64 0),.p (.int .i64 0)]),(43,.arr 76 3 (CX bl)),(48,.arr 22 1 (Cj nx)),(102,.arr 68 6 (CR q.2.2))],191⟩)
   (λ q=>q.1+q.2.2.length=k3+3/\q.2.1<=a2+1+4*q.2.2.length/\Zl bl.length q.2.2) (λ q=>q.1) (k3+3,a2+1,[]) ⟨by simp,by simp,λ i hi=>by simp at hi⟩
   ((DC (id:=5) (j:=2) (q:=102) (sz:=6) 68 rfl rfl rfl (by decide)).trans (BW (by simp[ZF,CR,Di]))) ?_
 rintro ⟨k,a,sp⟩ m2 ⟨hk,ha,H8⟩ ih;simp only at hk ha H8;have hsr:=H8.rng;cases c2:decide (0<(k:Int));rotate_left
 . obtain ⟨k,rfl⟩:∃j,k=j+1:=⟨k - 1,by have:=Ad c2;omega⟩;have GO:=HZ k (by omega);have V4:=JV 15 sp.length (by omega);have hbz:(0:Int)<(bl.length:Int):=by omega
   by_cases C6:sp.length=0
   . have Ii:((sp.length:Nat):Int)=0:=by omega
     have hd:decide (((sp.length:Nat):Int)=0)=true:=Ag Ii;simp only[go_sem,c2,Cg];refine Dp [(5,.box [.ref 43 0 bl.length bl.length,.ref 48 0 bl.length bl.length,.ref 102 0 sp.length sp.length,.cl [],.p (.int .i64 0),.p (.int .i64 0),.p (.int .i64 0),.p (.int .i64 0)]),(43,.arr 76 3 (CX bl))] mixed (p:=[(0,0),(3,0),(4,0),(14,0),(15,0),(16,0),(17,0),(19,0),(20,0),(21,0),(22,0),(24,0),(27,0),(29,1),(1,2),(2,0),(5,0),(6,0),(7,0),(8,0),(9,0),(10,2),(11,0),(12,0),(13,0),(18,2),(23,2),(25,2),(26,0),(28,0),(30,3)]) (by kernel_rfl) (by simp[C8,get]) ?_;simp only[go_sem,hd,Ci];refine Gq ((Jv sp.length (by omega))) ?_;simp only[go_sem,hd,Ci];refine ⟨by unfold maxLen;omega,?_⟩;obtain ⟨x,hx,hxb⟩:=CZ l a bl.length hbz;obtain ⟨y,hy,hyb⟩:=CZ l (a+1) bl.length hbz;obtain ⟨z,hz,hzb⟩:=CZ l (a+1+1) 3 (by omega);have hwz:IntKind.i64.wrap (1+(z:Int))=1+(z:Int):=by rw[B3]<;>omega
     have YZ:IntKind.i64.wrap ((bl.length:Int)+Di sp+(1+(z:Int)))=(bl.length:Int)+Di sp+(1+(z:Int)):=by rw[B3]<;>omega
     refine Gq ((Dd l a bl.length (by omega) (CL _ (by omega) (by omega)))) ?_;simp only[go_sem,Dm,hx];refine Gq ((Dd l (a+1) bl.length (by omega) (CL _ (by omega) (by omega)))) ?_;simp only[go_sem,Dm,hy];refine Gq ((Dd l (a+1+1) 3 (by omega) (CL _ (by omega) (by omega)))) ?_;simp only[go_sem,Dm,hz,hwz,YZ,Cg];refine ⟨⟨Dy _ _ rfl,by omega⟩,?_⟩;simp only[go_sem,GO];refine ih (k,a+1+1+1,sp++[⟨115::IT sp.length,true,(x:Int),(y:Int),1+(z:Int),(bl.length:Int)+Di sp⟩]) _ ⟨by simp;omega,by simp;omega,H8.snoc _ _ _ _ (by omega) (by omega) (by omega) (λ _=>rfl) (λ h=>by omega)⟩ (by simp only;omega) ?_
     (refine BW ?_;simp[ZF,Oe,Cg,D9,Int.add_assoc];done)
   by_cases Ea:sp.length<=2
   . have hd:decide (((sp.length:Nat):Int)=0)=false:=Ah (by omega);have I4:decide (2<((sp.length:Nat):Int))=false:=Ah (by omega);simp only[go_sem,c2,Cg];refine Dp [(5,.box [.ref 43 0 bl.length bl.length,.ref 48 0 bl.length bl.length,.ref 102 0 sp.length sp.length,.cl [],.p (.int .i64 0),.p (.int .i64 0),.p (.int .i64 0),.p (.int .i64 0)]),(43,.arr 76 3 (CX bl))] mixed (p:=[(0,0),(3,0),(4,0),(14,0),(15,0),(16,0),(17,0),(19,0),(20,0),(21,0),(22,0),(24,0),(27,0),(29,1),(1,2),(2,0),(5,0),(6,0),(7,0),(8,0),(9,0),(10,2),(11,0),(12,0),(13,0),(18,2),(23,2),(25,2),(26,0),(28,0),(30,3)]) (by kernel_rfl) (by simp[C8,get]) ?_;simp only[go_sem,hd,I4,Ci];refine Gq ((Jv sp.length (by omega))) ?_;simp only[go_sem,hd,I4,Ci];refine ⟨by unfold maxLen;omega,?_⟩;obtain ⟨x,hx,hxb⟩:=CZ l a bl.length hbz;obtain ⟨y,hy,hyb⟩:=CZ l (a+1) bl.length hbz;obtain ⟨z,hz,hzb⟩:=CZ l (a+1+1) 3 (by omega);have hwz:IntKind.i64.wrap (1+(z:Int))=1+(z:Int):=by rw[B3]<;>omega
     have YZ:IntKind.i64.wrap ((bl.length:Int)+Di sp+(1+(z:Int)))=(bl.length:Int)+Di sp+(1+(z:Int)):=by rw[B3]<;>omega
     refine Gq ((Dd l a bl.length (by omega) (CL _ (by omega) (by omega)))) ?_;simp only[go_sem,Dm,hx];refine Gq ((Dd l (a+1) bl.length (by omega) (CL _ (by omega) (by omega)))) ?_;simp only[go_sem,Dm,hy];refine Gq ((Dd l (a+1+1) 3 (by omega) (CL _ (by omega) (by omega)))) ?_;simp only[go_sem,Dm,hz,hwz,YZ,Cg];refine ⟨⟨Dy _ _ rfl,by omega⟩,?_⟩;simp only[go_sem,GO];refine ih (k,a+1+1+1,sp++[⟨115::IT sp.length,false,(x:Int),(y:Int),1+(z:Int),(bl.length:Int)+Di sp⟩]) _ ⟨by simp;omega,by simp;omega,H8.snoc _ _ _ _ (by omega) (by omega) (by omega) (λ h=>by omega) (λ _=>rfl)⟩ (by simp only;omega) ?_
     (refine BW ?_;simp[ZF,Oe,Cg,D9,Int.add_assoc];done)
   . have hd:decide (((sp.length:Nat):Int)=0)=false:=Ah (by omega);have I4:decide (2<((sp.length:Nat):Int))=true:=Ag (by omega);simp only[go_sem,c2,Cg];refine Dp [(5,.box [.ref 43 0 bl.length bl.length,.ref 48 0 bl.length bl.length,.ref 102 0 sp.length sp.length,.cl [],.p (.int .i64 0),.p (.int .i64 0),.p (.int .i64 0),.p (.int .i64 0)]),(43,.arr 76 3 (CX bl))] mixed (p:=[(0,0),(3,0),(4,0),(14,0),(15,0),(16,0),(17,0),(19,0),(20,0),(21,0),(22,0),(24,0),(27,0),(29,1),(1,2),(2,0),(5,0),(6,0),(7,0),(8,0),(9,0),(10,2),(11,0),(12,0),(13,0),(18,2),(23,2),(25,2),(26,0),(28,0),(30,3)]) (by kernel_rfl) (by simp[C8,get]) ?_;simp only[go_sem,hd,I4,Ci];refine Gq ((Jv sp.length (by omega))) ?_;simp only[go_sem,hd,I4,Ci];refine ⟨by unfold maxLen;omega,?_⟩;refine Gq ((Dd l a 2 (by omega) (CL _ (by omega) (by omega)))) ?_;simp only[go_sem,Dm,hd,I4];obtain ⟨x,hx,hxb⟩:=CZ l (a+1) bl.length hbz;obtain ⟨y,hy,hyb⟩:=CZ l ((a+1)+1) bl.length hbz;obtain ⟨z,hz,hzb⟩:=CZ l ((a+1)+1+1) 3 (by omega);have hwz:IntKind.i64.wrap (1+(z:Int))=1+(z:Int):=by rw[B3]<;>omega
     have YZ:IntKind.i64.wrap ((bl.length:Int)+Di sp+(1+(z:Int)))=(bl.length:Int)+Di sp+(1+(z:Int)):=by rw[B3]<;>omega
     refine Gq ((Dd l (a+1) bl.length (by omega) (CL _ (by omega) (by omega)))) ?_;simp only[go_sem,Dm,hx];refine Gq ((Dd l ((a+1)+1) bl.length (by omega) (CL _ (by omega) (by omega)))) ?_;simp only[go_sem,Dm,hy];refine Gq ((Dd l ((a+1)+1+1) 3 (by omega) (CL _ (by omega) (by omega)))) ?_;simp only[go_sem,Dm,hz,hwz,YZ,Cg];refine ⟨⟨Dy _ _ rfl,by omega⟩,?_⟩;simp only[go_sem,GO];refine ih (k,(a+1)+1+1+1,sp++[⟨115::IT sp.length,(decide (M7 l a 2=0)),(x:Int),(y:Int),1+(z:Int),(bl.length:Int)+Di sp⟩]) _ ⟨by simp;omega,by simp;omega,H8.snoc _ _ _ _ (by omega) (by omega) (by omega) (λ h=>by omega) (λ h=>by omega)⟩ (by simp only;omega) ?_
     (refine BW ?_;simp[ZF,Oe,Cg,D9,Int.add_assoc];done)
 have Bbu:k=0:=by have:=Ae c2;omega
 subst Bbu;have hns:3<=sp.length/\sp.length<=5:=by omega
 have ha4:a<=at_+130:=by omega
 clear ih hk ha Axj hk3;obtain ⟨q1,Uv,Bbi⟩:=CZ l a 4 (by omega);obtain ⟨q2,VZ,Av7⟩:=CZ l (a+1) 3 (by omega);obtain ⟨q3,hq3,hq3b⟩:=CZ l (a+1+1) 3 (by omega);obtain ⟨q4,hq4,hq4b⟩:=CZ l (a+1+1+1) 8 (by omega);obtain ⟨q5,hq5,hq5b⟩:=CZ l (a+1+1+1+1) 3 (by omega);have VW:IntKind.i64.wrap (1+(q1:Int))=1+(q1:Int):=by rw[B3]<;>omega
 have hw4:IntKind.i64.wrap (1+(q4:Int))=1+(q4:Int):=by rw[B3]<;>omega
 have hw5:IntKind.i64.wrap (1+(q5:Int))=((q5+1:Nat):Int):=by rw[B3]<;>omega
 have hP:∀rb:List Int,rb.length<=3->ER sp rb->Apy ⟨bl,nx,sp,rb,1+q1,q2,q3,1+q4⟩:=λ rb HJ HM=>
   ⟨Bbp,S6,OA,hnx,hns,λ i hi=>⟨(H8 i hi).1,(H8 i hi).2.1,(H8 i hi).2.2.1⟩,H8.spurs,HJ,HM,by unfold IV;simp only;omega⟩
 have hF:B2 prog 21 [.agg [.p (.sl (CX bl)),.p (.sl (Cj nx)),.p (.sl (CR sp)),.p (.sl []),.p (.int .i64 (1+q1)),.p (.int .i64 q2),.p (.int .i64 q3),.p (.int .i64 (1+q4))]] [] _:=
   hR ⟨bl,nx,sp,[],1+q1,q2,q3,1+q4⟩ (hP [] (by simp) (λ i hi=>by simp at hi)).valid
 have e1:=Xm bl bl.length (Ai _);have e2:=Aie nx bl.length (by omega);have e3:=Xl sp sp.length (Ai _);simp only[go_sem,c2];refine Cq ((Dd l a 4 (by omega) (CL _ (by omega) (by omega)))) ?_;simp only[go_sem,Dm,Uv,VW];refine Cq ((Dd l (a+1) 3 (by omega) (CL _ (by omega) (by omega)))) ?_;simp only[go_sem,Dm,VZ];refine Cq ((Dd l (a+1+1) 3 (by omega) (CL _ (by omega) (by omega)))) ?_;simp only[go_sem,Dm,hq3];refine Cq ((Dd l (a+1+1+1) 8 (by omega) (CL _ (by omega) (by omega)))) ?_;simp only[go_sem,Dm,hq4,hw4,Ci,Cf,OA,Cg,e1,e2,e3];refine At0 rfl rfl hF (by simp[GF,MA,ev,get,Ci,Cf,OA,Cg,e1,e2,e3]) ?_;rintro h' r ⟨rfl,o,slv,cap,rfl,Mx,Bbg,hRc⟩;refine ⟨rfl,?_⟩;simp only[go_sem];refine Cq ((Dd l (a+1+1+1+1) 3 (by omega) (CL _ (by omega) (by omega)))) ?_;simp only[go_sem,Dm,hq5,hw5];refine B7 (λ q:Nat×Nat×List Int=>⟨[(0,.ptr 1000000 0),(4,.ptr 4 0),(5,.ptr 5 0),(12,.ptr 12 0),(14,.p (.int .i64 (q.1:Nat)))],
     [(1000000,.box [.p (.sl (BZ l)),.p (.int .i64 (q.2.1:Nat))]),(4,.box [.cl [],.cl [],.cl [],.cl [],.p (.int .i64 0),.p (.int .i64 0),.p (.int .i64 0),.p (.int .i64 0)]),
      (5,.box [.ref 43 0 bl.length bl.length,.ref 48 0 bl.length bl.length,.ref 102 0 sp.length sp.length,.ref 188 0 q.2.2.length q.2.2.length,.p (.int .i64 (1+q1)),.p (.int .i64 q2),.p (.int .i64 q3),.p (.int .i64 (1+q4))]),
      (12,.box [.p (.int .i64 (o.length:Nat)),.SW,.p (.int .i64 slv),.p (.int .i64 cap)]),(43,.arr 76 3 (CX bl)),(48,.arr 22 1 (Cj nx)),(102,.arr 68 6 (CR sp)),(188,.arr 3 1 (BZ q.2.2))],191⟩)
   (λ q=>q.1+q.2.2.length<=q5+1/\q.2.1+q.1<=a+10/\ER sp q.2.2/\(q.2.2.length=0∨(q.2.2.length:Int)<=cap)) (λ q=>q.1) (q5+1,a+1+1+1+1+1,[]) ⟨by simp,by simp only;omega,λ i hi=>by simp at hi,.inl rfl⟩
   ((DC (id:=5) (j:=3) (q:=188) (sz:=1) 3 rfl rfl rfl (by decide)).trans (BW (by simp[ZF,BZ]))) ?_
 rintro ⟨k,b,rb⟩ m3 ⟨hk,hb,Y1,hrc⟩ ih;simp only at hk hb Y1 hrc;have e4:=GD rb rb.length (Ai _);cases c3:decide (0<(k:Int))
 . simp only[go_sem,c3];refine Cp ?_;simp only[go_sem,Ci,Cf,OA,Cg,BY];refine ⟨b,⟨bl,nx,sp,rb,1+q1,q2,q3,1+q4⟩,by omega,⟨hP rb (by omega) Y1,cap,hRc,hrc⟩,?_⟩;simp[Nt.os,Dm,OA]
 cases c4:decide ((rb.length:Int)<cap)
 . simp only[go_sem,c3,c4,BY];refine Cp ?_;simp only[go_sem,Ci,Cf,OA,Cg,BY];refine ⟨b,⟨bl,nx,sp,rb,1+q1,q2,q3,1+q4⟩,by omega,⟨hP rb (by omega) Y1,cap,hRc,hrc⟩,?_⟩;simp[Nt.os,Dm,OA]
 simp only[go_sem,c3,c4,BY];have hrl:rb.length<=3:=by omega
 have hss:=H8.spurs;refine B7 (λ q:Nat×List Int=>⟨[(0,.ptr 1000000 0),(4,.ptr 4 0),(5,.ptr 5 0),(12,.ptr 12 0),(14,.p (.int .i64 (k:Nat))),(15,.ref 177 0 q.2.length q.2.length),(16,.p (.int .i64 (q.1:Nat)))],
     [(1000000,.box [.p (.sl (BZ l)),.p (.int .i64 (b:Nat))]),(4,.box [.cl [],.cl [],.cl [],.cl [],.p (.int .i64 0),.p (.int .i64 0),.p (.int .i64 0),.p (.int .i64 0)]),
      (5,.box [.ref 43 0 bl.length bl.length,.ref 48 0 bl.length bl.length,.ref 102 0 sp.length sp.length,.ref 188 0 rb.length rb.length,.p (.int .i64 (1+q1)),.p (.int .i64 q2),.p (.int .i64 q3),.p (.int .i64 (1+q4))]),
      (12,.box [.p (.int .i64 (o.length:Nat)),.SW,.p (.int .i64 slv),.p (.int .i64 cap)]),(43,.arr 76 3 (CX bl)),(48,.arr 22 1 (Cj nx)),(102,.arr 68 6 (CR sp)),(188,.arr 3 1 (BZ rb)),(177,.arr 3 1 (BZ q.2))],191⟩)
   (λ q=>q.1<=sp.length/\q.2.length<=4*q.1/\(∀x∈q.2,sp.any (Mu x)=true/\x∉rb)/\∀u,u<q.1->∀j:Nat,(sp.getD u Cu).CE=true->(j:Int)<(sp.getD u Cu).Cs->(sp.getD u Cu).base+(j:Int)∈rb∨(sp.getD u Cu).base+(j:Int)∈q.2)
   (λ q=>sp.length - q.1) (0,[]) ⟨AE _,by simp,λ x hx=>by simp at hx,λ u hu=>absurd hu (A0 _)⟩
   ((Wk.nil (t:=15) (q:=177) (sz:=1) 3 rfl rfl (by decide)).trans (BW (by simp[ZF,BZ]))) ?_
 rintro ⟨i,fr⟩ m4 ⟨hi,QA,hfr,Avh⟩ Sx;simp only at hi QA hfr Avh;cases c5:decide ((i:Int)<(sp.length:Int));rotate_left
 . have hit:i<sp.length:=by have:=Ad c5;omega
   have WX:=Cd i (by omega);have Q7:=EB sp i hit;have C6:(0:Int)<=(i:Int)/\(i:Int)<(sp.length:Int):=by omega
   have Fe:=CF sp i Cu hit;obtain ⟨_,_,_,_,g5,g6,g7⟩:=hss i hit;obtain ⟨g8,g9,_⟩:=MJ hss hit;generalize hse:sp.getD i Cu=s at*;simp only[go_sem,c5,Cg];refine B7 (λ q:Nat×List Int=>⟨[(0,.ptr 1000000 0),(4,.ptr 4 0),(5,.ptr 5 0),(12,.ptr 12 0),(14,.p (.int .i64 (k:Nat))),(15,.ref 177 0 q.2.length q.2.length),(16,.p (.int .i64 (i:Nat))),(17,.p (.int .i64 (q.1:Nat)))],
       [(1000000,.box [.p (.sl (BZ l)),.p (.int .i64 (b:Nat))]),(4,.box [.cl [],.cl [],.cl [],.cl [],.p (.int .i64 0),.p (.int .i64 0),.p (.int .i64 0),.p (.int .i64 0)]),
      (5,.box [.ref 43 0 bl.length bl.length,.ref 48 0 bl.length bl.length,.ref 102 0 sp.length sp.length,.ref 188 0 rb.length rb.length,.p (.int .i64 (1+q1)),.p (.int .i64 q2),.p (.int .i64 q3),.p (.int .i64 (1+q4))]),
      (12,.box [.p (.int .i64 (o.length:Nat)),.SW,.p (.int .i64 slv),.p (.int .i64 cap)]),(43,.arr 76 3 (CX bl)),(48,.arr 22 1 (Cj nx)),(102,.arr 68 6 (CR sp)),(188,.arr 3 1 (BZ rb)),(177,.arr 3 1 (BZ q.2))],191⟩)
     (λ q=>q.1<=4/\(q.1:Int)<=s.Cs/\q.2.length<=4*i+q.1/\(∀x∈q.2,sp.any (Mu x)=true/\x∉rb)/\(∀u,u<i->∀j:Nat,(sp.getD u Cu).CE=true->(j:Int)<(sp.getD u Cu).Cs->(sp.getD u Cu).base+(j:Int)∈rb∨(sp.getD u Cu).base+(j:Int)∈q.2)/\∀j:Nat,j<q.1->s.base+(j:Int)∈rb∨s.base+(j:Int)∈q.2)
     (λ q=>4 - q.1) (0,fr) ⟨by simp,by simp only;omega,by simp only;omega,hfr,Avh,λ j hj=>absurd hj (A0 _)⟩ (BW (by simp[ZF,BZ])) ?_
   rintro ⟨j,f2⟩ m5 ⟨hj4,hjs,Bc3,hf2,Adw,hcj⟩ VV;simp only at hj4 hjs Bc3 hf2 Adw hcj;have b9:(¬((j:Int)<s.Cs)∨s.CE=false)->∀u,u<i+1->∀j:Nat,(sp.getD u Cu).CE=true->(j:Int)<(sp.getD u Cu).Cs->(sp.getD u Cu).base+(j:Int)∈rb∨(sp.getD u Cu).base+(j:Int)∈f2:=by
     intro hx u hu v hd hv;rcases AF.1 hu with h5 | rfl
     . exact Adw u h5 v hd hv
     . rw[hse] at hd hv ⊢;rcases hx with hx | hx
       . exact hcj v (by omega)
       . rw[hx] at hd;cases hd
   cases c6:decide ((j:Int)<s.Cs)
   . simp only[go_sem,Cg,Ab,Q7,C6,c6,WX];refine Sx (i+1,f2) _ ⟨hit,by simp only;omega,hf2,b9 (.inl (Ae c6))⟩ (by simp only;omega) ?_
     (refine BW ?_;simp[ZF];done)
   cases c7:s.CE
   . simp only[go_sem,Cg,Ab,Q7,C6,c6,c7,WX];refine Sx (i+1,f2) _ ⟨hit,by simp only;omega,hf2,b9 (.inr c7)⟩ (by simp only;omega) ?_
     (refine BW ?_;simp[ZF];done)
   have j9:=Ad c6;have YY:=Cd j (by omega);have hwx:IntKind.i64.wrap (s.base+(j:Int))=s.base+(j:Int):=by rw[B3]<;>omega
   have N9:sp.any (Mu (s.base+(j:Int)))=true:=by
     rw[AV];exact ⟨s,Fe,by unfold Mu;rw[c7];simp;omega⟩
   simp only[go_sem,Cg,Ab,Q7,C6,c6,c7,hwx,BY,e4];refine PQ rfl rfl ?_;simp only[go_sem,JW];refine Vq (Arx rb (s.base+(j:Int)) (by omega)) ?_;rintro h' r ⟨rfl,rfl⟩;simp only[go_sem];cases c8:decide (s.base+(j:Int)∈rb);rotate_left
   . simp only[go_sem,c8,YY];refine VV (j+1,f2) _ ⟨by simp only;omega,by simp only;omega,by simp only;omega,hf2,Adw,λ v hv=>?_⟩ (by simp only;omega) ?_
     . rcases AF.1 hv with h5 | rfl
       . exact hcj v h5
       . exact .inl (Ad c8)
     . (refine BW ?_;simp[ZF];done)
   . simp only[go_sem,c8,BY];refine ⟨⟨Dy _ _ rfl,by omega⟩,?_⟩;simp only[go_sem,YY];refine VV (j+1,f2++[s.base+(j:Int)]) _ ⟨by simp only;omega,by simp only;omega,by simp;omega,λ x hx=>?_,λ u hu v hd hv=>?_,λ v hv=>?_⟩ (by simp only;omega) ?_
     . rcases Aw.1 hx with hx | hx
       . exact hf2 x hx
       . rw[Ay] at hx;subst hx;exact ⟨N9,Ae c8⟩
     . rcases Adw u hu v hd hv with h5 | h5
       . exact .inl h5
       . exact .inr (BL _ h5)
     . rcases AF.1 hv with h5 | rfl
       . rcases hcj v h5 with h6 | h6
         . exact .inl h6
         . exact .inr (BL _ h6)
       . exact .inr (by simp)
     . (refine BW ?_;simp[ZF,D0,BY];done)
 have W0:i=sp.length:=by have:=Ae c5;omega
 subst W0;obtain ⟨s,hs,j,hd,hj,Bbm⟩:=Agq hss _ (rb:=rb) (by have:=Ad c4;rw[Bbg] at Mx;exact Int.lt_of_lt_of_le this Mx);obtain ⟨u,hu,rfl⟩:=AD.1 hs;have hfne:0<fr.length:=by
   have h5:=Avh u hu j (by rw[getD_eq hu];exact hd) (by rw[getD_eq hu];exact hj);rw[getD_eq hu] at h5;exact List.length_pos_of_mem (h5.resolve_left Bbm)
 obtain ⟨v,hv,VX⟩:=CZ l b fr.length (by omega);have hkp:1<=k:=by have:=Ad c3;omega
 obtain ⟨k,rfl⟩:∃j,k=j+1:=⟨k - 1,by omega⟩;have GO:=HZ k (by omega);have hgv:=Cm fr v (by omega);have Q5:(0:Int)<=(v:Int)/\(v:Int)<(fr.length:Int):=by omega
 have hx:=hfr _ (CF fr v 0 (by omega));simp only[go_sem,c5,Cg];refine Dp [(5,.box [.ref 43 0 bl.length bl.length,.ref 48 0 bl.length bl.length,.ref 102 0 sp.length sp.length,.ref 188 0 rb.length rb.length,.p (.int .i64 (1+q1)),.p (.int .i64 q2),.p (.int .i64 q3),.p (.int .i64 (1+q4))]),(177,.arr 3 1 (BZ fr))] mixed (p:=[(0,0),(1,0),(2,0),(3,0),(4,0),(5,0),(6,2),(7,0),(8,0),(9,1),(10,2),(11,0),(12,3)]) (by kernel_rfl) (by simp[C8,get]) ?_;simp only[go_sem,BY];refine Gq ((Dd l b fr.length (by omega) (CL _ (by omega) (by omega)))) ?_;simp only[go_sem,Dm,hv,BY,Ab,hgv,Q5];refine ⟨⟨Dy _ _ rfl,by omega⟩,?_⟩;simp only[go_sem,GO];refine ih (k,b+1,rb++[fr.getD v 0]) _ ⟨by simp;omega,by simp only;omega,Jb Y1 hx.1 hx.2,.inr (by have:=Ad c4;simp;omega)⟩ (by simp only;omega) ?_
 (refine BW ?_;simp[ZF,D0,BY];done)
theorem Arb(l:List Int)(at_ Pj:Nat)(Jr:at_<100000)(WY:1<=Pj)(S3:Pj<=10):
   B2 prog 24 [.ptr 1000000 0,.p (.int .i64 (Pj:Nat))] [(1000000,.box (Dm l at_))]
     λ h r=>∃at2 n,at2<=at_+200/\Apy n/\h=[(1000000,.box (Dm l at2)),(0,.arr 76 3 (CX n.blocks)),(1,.arr 22 1 (Cj n.next)),(2,.arr 68 6 (CR n.spurs)),(3,.arr 3 1 (BZ n.B6))]/\r= .agg n.os:=
 (Ald (λ _ _=>True) (λ n hn=>(Amx n hn).mono λ _ _ ⟨h1,o,sl,cap,h2,h3,h4⟩=>⟨h1,o,sl,cap,h2,h3,h4,trivial⟩) l at_ Pj Jr WY S3).mono
   λ _ _ ⟨at2,n,h1,h2,h3⟩=>⟨at2,n,h1,h2.1,h3⟩
def bnm(n:Nt)(x:Int):List UInt8:=(n.blocks.getD x.toNat FR).name
def Te(b:Et):Dc:=⟨1,0,[b.name],[b.x,b.y]⟩
def RD(n:Nt)(i:Nat)(x:Int):Dc:=⟨2,0,[(n.blocks.getD i FR).name,bnm n x],[]⟩
def ZY(n:Nt)(i:Nat):List Dc:=(n.next.getD i []).map (RD n i)
def P5(n:Nt)(s:Da):Dc:=⟨if s.CE then 4 else 3,0,[s.name,bnm n s.HL,bnm n s.out],[s.Cs]⟩
def WU(x:Int)(s:Da):Bool:=decide (s.base<=x)&&decide (x<s.base+s.Cs)
def SZ(r:Int)(s:Da):Dc:=⟨5,0,[s.name],[r - s.base+1]⟩
def SY(n:Nt)(r:Int)(k:Nat):List Dc:=((n.spurs.take k).filter (WU r)).map (SZ r)
def Ls(n:Nt):List Dc:=n.blocks.map Te
def I6(n:Nt)(i:Nat):List Dc:=(List.range i).flatMap (ZY n)
def OU(n:Nt):List Dc:=n.spurs.map (P5 n)
def Lr(n:Nt)(i:Nat):List Dc:=(n.B6.take i).flatMap λ r=>SY n r n.spurs.length
def Gy(n:Nt):List Dc:=Ls n++I6 n n.blocks.length++OU n++Lr n n.B6.length++[⟨6,0,[],[n.cq,n.ca,n.cd,n.cp]⟩]
def Ht:Nat->List Dc->List Dc
 | _,[]=>[]
 | i,x::r=>⟨x.word,(i:Int)+1,x.names,x.Cb⟩::Ht (i+1) r
def D2(n:Nt):List Dc:=Ht 0 (Gy n)
theorem GW:∀(i:Nat) (l:List Dc),(Ht i l).length=l.length
 | _,[]=>rfl
 | i,_::r=>by simp[Ht,GW (i+1) r]
theorem Vc(n:Nt)(i:Nat):I6 n (i+1)=I6 n i++ZY n i:=by simp[I6,List.range_succ,List.flatMap_append]
theorem Vb(n:Nt)(i:Nat)(h:i<n.B6.length):Lr n (i+1)=Lr n i++SY n (n.B6.getD i 0) n.spurs.length:=by
 unfold Lr;rw[CI n.B6 i 0 h,List.flatMap_append];simp
theorem Aez(n:Nt)(r:Int)(k:Nat)(h:k<n.spurs.length):SY n r (k+1)=SY n r k++(if WU r (n.spurs.getD k Cu) then [SZ r (n.spurs.getD k Cu)] else []):=by
 unfold SY;rw[CI n.spurs k Cu h,List.filter_append,Bg];generalize n.spurs.getD k Cu=s;cases hh:WU r s<;>simp[hh]
theorem Aih(l:List Dc)(i:Nat)(x:Dc):DX (l.set i x)=(DX l).set i [.int .i64 x.word,.int .i64 x.line,.sl (CB x.names),.sl (BZ x.Cb)]:=by simp[DX,Br]
theorem ZN:∀(i:Nat) (a b:List Dc),Ht i (a++b)=Ht i a++Ht (i+a.length) b
 | _,[],_=>by simp[Ht]
 | i,x::r,b=>by simp only[A6,Ht,ZN (i+1) r b,An];rw[show i+1+r.length=i+(r.length+1) by omega]
theorem Ala(L:List Dc)(i:Nat)(h:i<L.length):(Ht 0 (L.take i)++L.drop i).set i ⟨(L.getD i IU).word,(i:Int)+1,(L.getD i IU).names,(L.getD i IU).Cb⟩=Ht 0 (L.take (i+1))++L.drop (i+1):=by
 rw[CI L i IU h,ZN,Df L i IU h,List.set_append_right _ _ (by rw[GW];simp;omega),GW,A8,show min i L.length=i by omega];simp[Ht]
theorem s8(n:Nt)(hn:validN n):B2 prog 53 [.agg n.cs] [] λ h r=>h=[]/\r= .Dv [.p (.sl (DX (D2 n))),.p (.int .i64 0)]:=by
 have hV:=NT n (Ev hn);rw[Ag hn] at hV;obtain ⟨⟨SD,Ac8,OA,K9⟩,hs6,hnm,hr8,hcf,H8,Y1,hdp⟩:=hn;refine B1 func53 rfl p3 (by simp[Tryz.f53]) ?_;simp only[go_sem,Nt.cs];refine Cq ((hV)) ?_;simp only[go_sem];refine B7 (λ q:Nat×List Dc=>⟨[(1,.ptr 1 0),(4,.ref 43 0 q.2.length q.2.length),(5,.p (.int .i64 (q.1:Nat)))],[(1,.box (Nt.cs n)),(43,.arr 82 4 (DX q.2))],210⟩)
   (λ q=>q.1<=n.blocks.length/\q.2.length=q.1/\q.2=(n.blocks.take q.1).map Te) (λ q=>n.blocks.length - q.1) (0,[]) ⟨AE _,rfl,rfl⟩ ((Wk.nil (t:=4) (q:=43) (sz:=4) 82 rfl rfl (by decide)).trans (BW (by simp[ZF,Nt.cs,DX]))) ?_
 rintro ⟨i,acc⟩ m ⟨hi,Hx,UH⟩ ih;simp only at hi Hx UH;cases c1:decide ((i:Int)<(n.blocks.length:Int));rotate_left
 . have hit:i<n.blocks.length:=by have:=Ad c1;omega
   have hw:=Cd i (by omega);have hg:=JU n.blocks i hit;have C6:(0:Int)<=(i:Int)/\(i:Int)<(n.blocks.length:Int):=by omega
   have Q6:=CI n.blocks i FR hit;simp only[go_sem,Nt.cs,Ci,c1,Ab,hg,C6,CS];refine ⟨⟨Dy _ _ rfl,by omega⟩,?_⟩;simp only[go_sem,hw];refine ih (i+1,acc++[Te (n.blocks.getD i FR)]) _ ⟨hit,by simp[Hx],by simp only;rw[Q6,Bg,UH];rfl⟩ (by simp only;omega) ?_
   (refine BW ?_;simp[ZF,Nt.cs,FY,CS,Te,CB,BZ];done)
 have W0:i=n.blocks.length:=by have:=Ae c1;omega
 subst W0;rw[Ar] at UH;have OD:acc=Ls n:=UH;clear ih UH;simp only[go_sem,Nt.cs,Ci,c1];refine B7 (λ q:Nat×List Dc=>⟨[(1,.ptr 1 0),(4,.ref 43 0 q.2.length q.2.length),(7,.p (.int .i64 (q.1:Nat)))],[(1,.box (Nt.cs n)),(43,.arr 82 4 (DX q.2))],210⟩)
   (λ q=>q.1<=n.blocks.length/\q.2.length<=24+4*q.1/\q.2=Ls n++I6 n q.1) (λ q=>n.blocks.length - q.1) (0,acc) ⟨AE _,by simp only;omega,by simp[OD,I6]⟩ (BW (by simp[ZF,Nt.cs,DX])) ?_
 rintro ⟨i,Asp⟩ m2 ⟨hi,Bcd,Amp⟩ ih;simp only at hi Bcd Amp;cases c2:decide ((i:Int)<(n.blocks.length:Int));rotate_left
 . have hit:i<n.blocks.length:=by have:=Ad c2;omega
   have hw:=Cd i (by omega);have hg:=JU n.blocks i hit;have C6:(0:Int)<=(i:Int)/\(i:Int)<(n.blocks.length:Int):=by omega
   have Ii:(0:Int)<=(i:Int)/\(i:Int)<(n.next.length:Int):=by omega
   have hgn:=Gx n.next i (by omega)
   obtain ⟨_,hr4,Dq⟩:=K9 i hit;have Bbt:ZY n i=(n.next.getD i []).map (RD n i):=rfl;generalize n.next.getD i []=row at*
   simp only[go_sem,Nt.cs,Ci,c2];refine B7 (λ q:Nat×List Dc=>⟨[(1,.ptr 1 0),(4,.ref 43 0 q.2.length q.2.length),(7,.p (.int .i64 (i:Nat))),(8,.p (.int .i64 (q.1:Nat)))],[(1,.box (Nt.cs n)),(43,.arr 82 4 (DX q.2))],210⟩)
     (λ q=>q.1<=row.length/\q.2.length=Asp.length+q.1/\q.2=Asp++(row.take q.1).map (RD n i)) (λ q=>row.length - q.1) (0,Asp) ⟨AE _,rfl,by simp⟩ (BW (by simp[ZF,Nt.cs,DX])) ?_
   rintro ⟨k,Aac⟩ m3 ⟨hk,Avl,SE⟩ Hw;simp only at hk Avl SE;cases c3:decide ((k:Int)<(row.length:Int))
   . have hke:k=row.length:=by have:=Ae c3;omega
     subst hke;simp only[go_sem,Nt.cs,Cf,BY,Ab,hgn,Ii,c3,hw];refine ih (i+1,Aac) _ ⟨hit,by simp only;omega,by simp only;rw[SE,Ar,Vc,Bbt,Amp,A9]⟩ (by simp only;omega) ?_
     (refine BW ?_;simp[ZF,Nt.cs];done)
   have J6:k<row.length:=by have:=Ad c3;omega
   have GO:=Cd k (by omega);have Hn:(0:Int)<=(k:Int)/\(k:Int)<(row.length:Int):=by omega
   have hro:=Dq k J6;obtain ⟨x,hx⟩:∃x:Nat,row.getD k 0=(x:Int):=⟨(row.getD k 0).toNat,by have:=hro.1;omega⟩;have hxb:x<n.blocks.length:=by have:=hro.2.1;omega
   have Mo:=Cm row k J6;rw[hx] at Mo;have hgx:=JU n.blocks x hxb;have hx0:(0:Int)<=(x:Int)/\(x:Int)<(n.blocks.length:Int):=by omega
   have Q6:=CI row k 0 J6;rw[hx] at Q6;simp only[go_sem,Nt.cs,Cf,BY,Ab,hgn,Ii,c3];refine Dp [(1,.box (Nt.cs n))] mixed (p:=[(0,0),(1,0),(2,0),(3,0),(4,0),(5,0),(6,0),(7,0),(8,0),(9,0),(10,0),(11,0),(12,0),(13,0),(14,0),(15,0),(16,0),(17,0),(18,0),(19,0),(20,1),(21,0),(22,2),(23,2),(24,0)]) (by kernel_rfl) (by simp[C8,get,Nt.cs]) ?_;simp only[go_sem,Nt.cs,Ci,Cf,BY,Ab,hgn,Ii,hg,C6,Mo,Hn,hgx,hx0,CS];refine ⟨⟨Dy _ _ rfl,by omega⟩,?_⟩;simp only[go_sem,GO];refine Hw (k+1,Aac++[RD n i (x:Int)]) _ ⟨J6,by simp;omega,by simp only;rw[Q6,Bg,SE,A9];rfl⟩ (by simp only;omega) ?_
   (refine BW ?_;simp[ZF,Nt.cs,FY,CS,RD,bnm,CB,BZ];done)
 have W0:i=n.blocks.length:=by have:=Ae c2;omega
 subst W0;clear ih;simp only[go_sem,Nt.cs,Ci,c2];refine B7 (λ q:Nat×List Dc=>⟨[(1,.ptr 1 0),(4,.ref 43 0 q.2.length q.2.length),(9,.p (.int .i64 (q.1:Nat)))],[(1,.box (Nt.cs n)),(43,.arr 82 4 (DX q.2))],210⟩)
   (λ q=>q.1<=n.spurs.length/\q.2.length<=200+q.1/\q.2=Ls n++I6 n n.blocks.length++(n.spurs.take q.1).map (P5 n)) (λ q=>n.spurs.length - q.1) (0,Asp) ⟨AE _,by simp only;omega,by simp[Amp]⟩ (BW (by simp[ZF,Nt.cs,DX])) ?_
 rintro ⟨i,Aac⟩ m4 ⟨Ea,Avl,SE⟩ ih;simp only at Ea Avl SE;cases c4:decide ((i:Int)<(n.spurs.length:Int));rotate_left
 . have hit:i<n.spurs.length:=by have:=Ad c4;omega
   have hw:=Cd i (by omega);have hg:=EB n.spurs i hit;have C6:(0:Int)<=(i:Int)/\(i:Int)<(n.spurs.length:Int):=by omega
   have Q6:=CI n.spurs i Cu hit;obtain ⟨g1,g2,g3,g4,_⟩:=H8 i hit;generalize n.spurs.getD i Cu=s at*;obtain ⟨nm,dp,HL,out,sl,bs⟩:=s;simp only at g1 g2 g3 g4;obtain ⟨x,rfl⟩:∃x:Nat,HL=(x:Int):=⟨HL.toNat,by omega⟩;obtain ⟨y,rfl⟩:∃y:Nat,out=(y:Int):=⟨out.toNat,by omega⟩;have hgx:=JU n.blocks x (by omega);have hgy:=JU n.blocks y (by omega);have hx0:(0:Int)<=(x:Int)/\(x:Int)<(n.blocks.length:Int):=by omega
   have YX:(0:Int)<=(y:Int)/\(y:Int)<(n.blocks.length:Int):=by omega
   simp only[go_sem,Nt.cs,Cg,c4,Ab,hg,C6];refine CG mixed (p:=[(0,0),(1,0),(2,0),(3,0),(4,0),(5,0),(6,0),(7,0),(8,0),(9,0),(10,0),(11,0),(12,0),(13,0),(14,0),(15,0),(17,0),(18,0),(16,1),(19,1),(20,0),(21,1),(22,3)]) (by kernel_rfl) (by simp[C8,get]) ?_;simp only[go_sem,Nt.cs,Ci,Ab,hgx,hgy,hx0,YX];cases dp
   . simp only[go_sem,CS];refine ⟨⟨Dy _ _ rfl,by omega⟩,?_⟩;simp only[go_sem,hw];refine ih (i+1,Aac++[P5 n ⟨nm,false,(x:Int),(y:Int),sl,bs⟩]) _ ⟨hit,by simp;omega,by simp only;rw[Q6,Bg,SE,A9];rfl⟩ (by simp only;omega) ?_
     (refine BW ?_;simp[ZF,Nt.cs,FY,CS,P5,bnm,CB,BZ];done)
   . simp only[go_sem,CS];refine ⟨⟨Dy _ _ rfl,by omega⟩,?_⟩;simp only[go_sem,hw];refine ih (i+1,Aac++[P5 n ⟨nm,true,(x:Int),(y:Int),sl,bs⟩]) _ ⟨hit,by simp;omega,by simp only;rw[Q6,Bg,SE,A9];rfl⟩ (by simp only;omega) ?_
     (refine BW ?_;simp[ZF,Nt.cs,FY,CS,P5,bnm,CB,BZ];done)
 have W0:i=n.spurs.length:=by have:=Ae c4;omega
 subst W0;clear ih;simp only[go_sem,Nt.cs,Cg,c4];have Bc7:Aac=Ls n++I6 n n.blocks.length++OU n:=by rw[SE,Ar];rfl
 have hd3:True:=trivial;have Avj:∀k,k<n.spurs.length->0<=(n.spurs.getD k Cu).base/\(n.spurs.getD k Cu).base<=1000/\1<=(n.spurs.getD k Cu).Cs/\(n.spurs.getD k Cu).Cs<=4:=λ k hk=>by
   have h3:=H8 k hk;have h4:=Io n.blocks.length n.spurs k (by omega) (λ j hj=>H8 j (by omega));obtain ⟨_,_,_,_,h5,h6,h7⟩:=h3;omega
 refine B7 (λ q:Nat×List Dc=>⟨[(1,.ptr 1 0),(4,.ref 43 0 q.2.length q.2.length),(12,.p (.int .i64 (q.1:Nat)))],[(1,.box (Nt.cs n)),(43,.arr 82 4 (DX q.2))],210⟩)
   (λ q=>q.1<=n.B6.length/\q.2.length<=300+6*q.1/\q.2=Aac++Lr n q.1) (λ q=>n.B6.length - q.1) (0,Aac) ⟨AE _,by simp only;omega,by simp[Lr]⟩ (BW (by simp[ZF,Nt.cs,DX])) ?_
 rintro ⟨i,Aso⟩ m5 ⟨hi3,Bcc,Amo⟩ ih;simp only at hi3 Bcc Amo;cases c5:decide ((i:Int)<(n.B6.length:Int));rotate_left
 . have hit:i<n.B6.length:=by have:=Ad c5;omega
   have hw:=Cd i (by omega);have hgr:=Cm n.B6 i hit;have C6:(0:Int)<=(i:Int)/\(i:Int)<(n.B6.length:Int):=by omega
   have hd4:=Vb n i hit;have j3:∃s∈n.spurs,Mu (n.B6.getD i 0) s=true:=AV.1 (Y1 i hit).1;generalize n.B6.getD i 0=x at*;simp only[go_sem,Nt.cs,BY,c5];refine B7 (λ q:Nat×List Dc=>⟨[(1,.ptr 1 0),(4,.ref 43 0 q.2.length q.2.length),(12,.p (.int .i64 (i:Nat))),(13,.p (.int .i64 (q.1:Nat)))],[(1,.box (Nt.cs n)),(43,.arr 82 4 (DX q.2))],210⟩)
     (λ q=>q.1<=n.spurs.length/\q.2.length<=Aso.length+q.1/\q.2=Aso++SY n x q.1) (λ q=>n.spurs.length - q.1) (0,Aso) ⟨AE _,by simp,by simp[SY]⟩ (BW (by simp[ZF,Nt.cs,DX])) ?_
   rintro ⟨k,Asn⟩ m6 ⟨hk,Bcb,k8⟩ Hw;simp only at hk Bcb k8;cases c6:decide ((k:Int)<(n.spurs.length:Int))
   . have hke:k=n.spurs.length:=by have:=Ae c6;omega
     subst hke;simp only[go_sem,Nt.cs,Cg,c6,hw];refine ih (i+1,Asn) _ ⟨hit,by simp only;omega,by simp only;rw[k8,hd4,Amo,A9]⟩ (by simp only;omega) ?_
     (refine BW ?_;simp[ZF,Nt.cs];done)
   have J6:k<n.spurs.length:=by have:=Ad c6;omega
   have GO:=Cd k (by omega);have Mo:=EB n.spurs k J6;have Hn:(0:Int)<=(k:Int)/\(k:Int)<(n.spurs.length:Int):=by omega
   have hb:=Avj k J6;have hrs:=Aez n x k J6;generalize n.spurs.getD k Cu=s at*;obtain ⟨nm,dp,HL,out,sl,bs⟩:=s;simp only at hb;have YZ:IntKind.i64.wrap (bs+sl)=bs+sl:=by rw[B3]<;>omega
   simp only[go_sem,Nt.cs,Cg,c6,Ab,Mo,Hn];refine CG mixed (p:=[(0,0),(1,0),(2,0),(3,0),(4,0),(5,0),(6,0),(7,0),(8,0),(9,0),(10,0),(11,0),(12,0),(13,0),(14,0),(15,0),(16,0),(17,0),(18,0),(19,0),(20,0)]) (by kernel_rfl) (by simp[C8,get]) ?_;cases c7:decide (bs<=x)
   . simp only[go_sem,Nt.cs,BY,Ab,hgr,C6,c7,GO];refine Hw (k+1,Asn) _ ⟨J6,by simp only;omega,by simp only;rw[hrs,k8];simp[WU,c7]⟩ (by simp only;omega) ?_
     (refine BW ?_;simp[ZF,Nt.cs];done)
   cases c8:decide (x<bs+sl)
   . simp only[go_sem,Nt.cs,BY,Ab,hgr,C6,c7,YZ,c8,GO];refine Hw (k+1,Asn) _ ⟨J6,by simp only;omega,by simp only;rw[hrs,k8];simp[WU,c7,c8]⟩ (by simp only;omega) ?_
     (refine BW ?_;simp[ZF,Nt.cs];done)
   have IM:=Ad c7;have HT:=Ad c8;have hwd:IntKind.i64.wrap (x - bs)=x - bs:=by rw[B3]<;>omega
   have hwe:IntKind.i64.wrap (x - bs+1)=x - bs+1:=by rw[B3]<;>omega
   simp only[go_sem,Nt.cs,BY,Ab,hgr,C6,c7,YZ,c8];refine Dp [(1,.box (Nt.cs n)),(14,.box [.p (.str nm),.p (.bool dp),.p (.int .i64 HL),.p (.int .i64 out),.p (.int .i64 sl),.p (.int .i64 bs)])] mixed (p:=[(0,0),(1,0),(2,0),(4,0),(5,0),(6,0),(7,0),(8,0),(9,0),(10,0),(11,0),(12,0),(3,1),(13,1),(14,0),(15,2),(16,2),(17,0)]) (by kernel_rfl) (by simp[C8,get,Nt.cs]) ?_;simp only[go_sem,Nt.cs,BY,Ab,hgr,C6,hwd,hwe,CS];refine ⟨⟨Dy _ _ rfl,by omega⟩,?_⟩;simp only[go_sem,GO];refine Hw (k+1,Asn++[SZ x ⟨nm,dp,HL,out,sl,bs⟩]) _ ⟨J6,by simp;omega,by simp only;rw[hrs,k8];simp[WU,c7,c8]⟩ (by simp only;omega) ?_
   (refine BW ?_;simp[ZF,Nt.cs,FY,CS,SZ,CB,BZ];done)
 have W0:i=n.B6.length:=by have:=Ae c5;omega
 subst W0;clear ih;simp only[go_sem,Nt.cs,BY,c5,CS];refine ⟨⟨Dy _ _ rfl,by omega⟩,?_⟩;have hd0:Aso++[⟨6,0,[],[n.cq,n.ca,n.cd,n.cp]⟩]=Gy n:=by rw[Amo,Bc7];rfl
 have hLn:(Gy n).length<=400:=by rw[<-hd0];simp;omega
 have hdv:Ht 0 (Gy n)=D2 n:=rfl;generalize Gy n=L at*;refine B7 (λ q:Nat×List Dc=>⟨[(4,.ref 43 0 q.2.length q.2.length),(16,.p (.int .i64 (q.1:Nat)))],[(43,.arr 82 4 (DX q.2))],210⟩)
   (λ q=>q.1<=L.length/\q.2=Ht 0 (L.take q.1)++L.drop q.1) (λ q=>L.length - q.1) (0,L) ⟨AE _,by simp[Ht]⟩ (BW (by simp[ZF,<-hd0,FY,CB,BZ,CS])) ?_
 rintro ⟨i,o⟩ m7 ⟨hi4,ho⟩ ih;simp only at hi4 ho;have Tp:o.length=L.length:=by rw[ho];simp[GW];omega
 cases c9:decide ((i:Int)<(L.length:Int))
 . have W0:i=L.length:=by have:=Ae c9;omega
   subst W0;simp only[go_sem,CS,Tp,c9];refine BX ?_;simp only[go_sem];rw[Ar,AZ,List.append_nil] at ho;subst ho;rw[<-hdv,AA (by rw[CS];omega)];try exact ⟨by rw[CS];omega,rfl⟩
 . have hit:i<L.length:=by have:=Ad c9;omega
   have hw:=Cd i (by omega);have C6:(0:Int)<=(i:Int)/\(i:Int)<(L.length:Int):=by omega
   have hgx:=r6 o i (by omega);have hox:o.getD i IU=L.getD i IU:=by
     rw[ho,List.getD,A1 (by rw[GW,A8];omega),AR,GW,A8,List.getD]
     congr 2;omega
   rw[hox] at hgx;have E2:=Ala L i hit;rw[<-ho] at E2;generalize L.getD i IU=x at*;simp only[go_sem,CS,Tp,c9,Ab,C6,hgx,hw];refine ih (i+1,o.set i ⟨x.word,(i:Int)+1,x.names,x.Cb⟩) _ ⟨hit,E2⟩ (by simp only;omega) ?_
   (refine BW ?_;simp[ZF,Aih,CS,Tp];done)
theorem Iz{α β:Type}(f:α->List β)(k:Nat):∀l:List α,(∀x∈l,(f x).length<=k)->(l.flatMap f).length<=l.length*k
 | [],_=>by simp
 | x::r,h=>by
   have h1:=h x (by simp);have h2:=Iz f k r (λ y hy=>h y (by simp[hy]));simp only[List.flatMap_cons,Aq,An,A2,Nat.one_mul];omega
structure CM where
 bl:List Et
 nx:List (List Int)
 sp:List Da
 cq:Int
 ca:Int
 cd:Int
 cp:Int
 mb:List (List UInt8×Int)
 ms:List (List UInt8×Int)
 ba:List Int
 sl:Int
 pl:List (Int×Int)
 cf:Bool
def encR(l:List (List Int)):List (List (List Pd)):=l.map BZ
def IS(l:List (Int×Int)):List (List Pd):=l.map λ p=>[.int .i64 p.1,.int .i64 p.2]
theorem IA(l:List (List Int)):(encR l).length=l.length:=by simp[encR]
theorem EW(l:List (Int×Int)):(IS l).length=l.length:=by simp[IS]
theorem NA(l:List (List Int))(i:Nat):(encR l).getD i []=BZ (l.getD i []):=by
 unfold encR;by_cases h:i<l.length
 . simp[List.getD,h]
 . simp[List.getD,h,BZ]
theorem Aia(l:List (List Int)):encR l++[[]]=encR (l++[[]]):=by simp[encR,BZ]
theorem r4(l:List (List Int))(i:Nat)(r:List Int):encR (l.set i r)=(encR l).set i (BZ r):=by simp[encR,Br]
theorem Aib(l:List (Int×Int))(p:Int×Int):IS (l++[p])=IS l++[[.int .i64 p.1,.int .i64 p.2]]:=by simp[IS]
def CM.box(b:CM):List D:=[.ref 1000001 0 b.bl.length b.bl.length,.DI 1000002 b.nx.length,.ref 1000003 0 b.sp.length b.sp.length,.cl [],.p (.int .i64 b.cq),.p (.int .i64 b.ca),.p (.int .i64 b.cd),.p (.int .i64 b.cp),
 .mv 1000004,.mv 1000005,.ref 1000006 0 b.ba.length b.ba.length,.p (.int .i64 b.sl),.ref 1000007 0 b.pl.length b.pl.length,.p (.bool b.cf)]
def CM.h(b:CM)(k:Nat):Hp:=[(1000000,.box b.box),(1000001,.arr 76 3 (CX b.bl)),(1000002,.DF 22 3 1 k (encR b.nx) none),(1000003,.arr 68 6 (CR b.sp)),
 (1000004,.mp (KD b.mb)),(1000005,.mp (KD b.ms)),(1000006,.arr 3 1 (BZ b.ba)),(1000007,.arr 120 2 (IS b.pl))]
theorem CV(b:CM)(k:Nat):b.h k=[(1000000,.box [.ref 1000001 0 b.bl.length b.bl.length,.DI 1000002 b.nx.length,.ref 1000003 0 b.sp.length b.sp.length,.cl [],.p (.int .i64 b.cq),.p (.int .i64 b.ca),.p (.int .i64 b.cd),.p (.int .i64 b.cp),
 .mv 1000004,.mv 1000005,.ref 1000006 0 b.ba.length b.ba.length,.p (.int .i64 b.sl),.ref 1000007 0 b.pl.length b.pl.length,.p (.bool b.cf)]),(1000001,.arr 76 3 (CX b.bl)),(1000002,.DF 22 3 1 k (encR b.nx) none),(1000003,.arr 68 6 (CR b.sp)),
 (1000004,.mp (KD b.mb)),(1000005,.mp (KD b.ms)),(1000006,.arr 3 1 (BZ b.ba)),(1000007,.arr 120 2 (IS b.pl))]:=rfl
def CM.Kp(b:CM)(x:List UInt8):Bool:=(Es b.mb x).isSome||(Es b.ms x).isSome
theorem Iu(b:CM)(k:Nat)(x:List UInt8):B2 prog 141 [.ptr 1000000 0,.p (.str x)] (b.h k) λ h r=>h=b.h k/\r= .p (.bool (b.Kp x)):=by
 refine B1 func141 rfl Ahc (by simp[Tryz.f141]) ?_;rw[CV b k];simp only[go_sem,KK.fit,DW,D6,Abl];cases c:(Es b.mb x).isSome
 . simp only[go_sem,c];try simp[CM.Kp,c]
 . simp only[go_sem,c];try simp[CM.Kp,c]
def CM.E5(b:CM)(d:Dc):Int×CM:=
 if b.Kp (d.names.getD 0 [])=true then (8,b) else if b.bl.length=24 then (14,b) else
   (0,{b with mb:=IJ b.mb (d.names.getD 0 []) b.bl.length,bl:=b.bl++[⟨d.names.getD 0 [],d.Cb.getD 0 0,d.Cb.getD 1 0⟩],nx:=b.nx++[[]]})
theorem Apm(b:CM)(k:Nat)(d:Dc)(h1:1<=d.names.length)(h2:2<=d.Cb.length)(hb:b.bl.length<=24)(hn:b.nx.length<=24):
   B2 prog 109 [.ptr 1000000 0,d.d] (b.h k) λ h r=>∃k',h=(b.E5 d).2.h k'/\r= .p (.int .i64 (b.E5 d).1):=by
 have e1:=DH d.names 0 (by omega);have e2:=Cm d.Cb 0 (by omega);have e3:=Cm d.Cb 1 (by omega);refine B1 func109 rfl Ahy (by simp[Tryz.f109]) ?_;rw[CV b k];unfold Dc.d;simp only[go_sem,B5,e1];refine ⟨by omega,?_⟩;refine Cq (Iu b k _) ?_;cases c:b.Kp (d.names.getD 0 []);rotate_left
 . simp only[go_sem,CV b k,c];have hv:b.E5 d=(8,b):=by unfold CM.E5;rw[if_pos c]
   rw[hv];exact ⟨k,rfl,rfl⟩
 cases c2:decide ((b.bl.length:Int)=24);rotate_left
 . simp only[go_sem,CV b k,c,c2,Ci];have c3:b.bl.length=24:=by have:=Ad c2;omega
   have hv:b.E5 d=(14,b):=by unfold CM.E5;rw[c,if_neg AJ,if_pos c3]
   rw[hv];exact ⟨k,rfl,rfl⟩
 have c3:¬b.bl.length=24:=by have:=Ae c2;omega
 simp only[go_sem,CV b k,c,c2,Ci];refine Dp [(1000000,.box b.box),(3,.box [.p (.int .i64 d.word),.p (.int .i64 d.line),.p (.sl (CB d.names)),.p (.sl (BZ d.Cb))]),(1000001,.arr 76 3 (CX b.bl))] mixed (p:=[(0,0),(1,0),(2,0),(3,0),(4,0),(5,0),(6,0),(7,0),(8,0),(9,0),(10,0),(11,0),(12,0),(13,0),(14,3)]) (by kernel_rfl) (by simp[C8,get,CM.box]) ?_;unfold CM.box;simp only[go_sem,B5,e1,Ci,KK.fit,DW,Ua,Pd.flat];refine ⟨by omega,?_⟩;refine Dp [(1000000,.box b.box),(3,.box [.p (.int .i64 d.word),.p (.int .i64 d.line),.p (.sl (CB d.names)),.p (.sl (BZ d.Cb))])] mixed (p:=[(0,0),(1,0),(2,0),(3,0),(4,0),(5,0),(6,0),(7,0),(8,0),(9,0),(10,0),(11,0),(12,0),(13,0),(14,0),(15,0),(16,0),(17,0),(18,0),(19,1),(20,2),(21,0),(22,0),(23,0),(24,3)]) (by kernel_rfl) (by simp[C8,get,CM.box]) ?_;unfold CM.box;simp only[go_sem,B5,e1,BY,e2,e3,Ci];refine ⟨by omega,by omega,by omega,⟨Dy _ _ rfl,by omega,by omega⟩,?_⟩;refine Aqe rfl Aeo Aep rfl rfl ?_;simp only[go_sem];refine Ajf rfl rfl rfl rfl Aeo Aeo Aep rfl rfl (IA _).symm rfl rfl (by omega) (by omega) ?_;simp only[go_sem];have hv:b.E5 d=(0,{b with mb:=IJ b.mb (d.names.getD 0 []) b.bl.length,bl:=b.bl++[⟨d.names.getD 0 [],d.Cb.getD 0 0,d.Cb.getD 1 0⟩],nx:=b.nx++[[]]}):=by
   unfold CM.E5;rw[c,if_neg AJ,if_neg c3]
 rw[hv];refine ⟨k+1,?_,rfl⟩;simp only[CV,Xn,Aia,Aq,An,Ax,Bf,Ci]
def Aga(l:List Int)(x:Int):Int:=if x∈l then ((l.idxOf x:Nat):Int) else -1
theorem Z8{x:Int}:∀(l:List Int) (i:Nat),i<l.length->l.getD i 0=x->x∉l.take i->l.idxOf x=i
 | [],i,h,_,_=>by simp at h
 | y::r,0,_,h,_=>by simp at h;subst h;simp
 | y::r,i+1,h,h1,h2=>by
   simp only[List.take_succ_cons,AG,not_or] at h2;have:=Z8 r i (by simpa using h) (by simpa [List.getD] using h1) h2.2;rw[List.idxOf_cons,this];have:(y==x)=false:=by simpa using λ e:y=x=>h2.1 e.symm
   rw[this];rfl
theorem Arp{l:List Int}{x:Int}{i:Nat}(hi:i<l.length)(hx:l.getD i 0=x)(hn:x∉l.take i):Aga l x=(i:Int):=by
 have h1:x∈l:=by rw[<-hx];exact CF l i 0 hi
 unfold Aga;rw[if_pos h1,Z8 l i hi hx hn]
theorem Z6(l:List Int)(x:Int):decide (0<=Aga l x)=decide (x∈l):=by
 unfold Aga;by_cases h:x∈l
 . rw[if_pos h];simp[h]
 . rw[if_neg h];simp[h]
theorem Ag5(l:List Int)(x:Int)(hl:l.length<=10000000):
   B2 prog 171 [.ref 1000000 0 l.length l.length,.p (.int .i64 x)] [(1000000,.arr 3 1 (BZ l))] λ h r=>h=[(1000000,.arr 3 1 (BZ l))]/\r= .p (.int .i64 (Aga l x)):=by
 refine B1 func171 rfl Xf (by simp[Tryz.f171]) ?_;simp only[go_sem,BY];refine B7 (λ i=>⟨[(0,.ref 1000000 0 l.length l.length),(1,.p (.int .i64 x)),(4,.p (.int .i64 0)),(7,.p (.int .i64 l.length)),(8,.p (.int .i64 (i:Nat)))],[(1000000,.arr 3 1 (BZ l))],19⟩) (λ i=>i<=l.length/\x∉l.take i) (λ i=>l.length - i) 0 ⟨AE _,by simp⟩ (BW (by simp[ZF,BZ])) ?_;rintro i n ⟨hi,he⟩ ih;simp only[go_sem,BY];refine Cy (λ h2=>?_) (λ h2=>?_)
 . have Cv:i<l.length:=by simp at h2;omega
   have hw:=Cd i (by omega);have hg:=Cm l i Cv;have C6:(0:Int)<=(i:Int)/\(i:Int)<(l.length:Int):=by omega
   have Jr:=λ h=>Arp (x:=x) Cv h he;have hx:l[i]?=some (l.getD i 0):=by simp[List.getD,Cv]
   generalize l.getD i 0=y at*;simp only[go_sem,BY,Ab,hg,C6];cases hv:decide (x=y)
   . simp only[go_sem,hv,hw];refine ih (i+1) _ ⟨Cv,?_⟩ (by omega) ?_
     . rw[BP,hx];have:¬x=y:=Ae hv;simp[he,this]
     . (refine BW ?_;simp[ZF,BZ];done)
   . simp only[go_sem,hv];rw[Jr (Ad hv).symm];try simp
 . simp only[go_sem];have:i=l.length:=by simp at h2;omega
   subst this;rw[Ar] at he;simp[Aga,he]
theorem YA(l:List Int)(x:Int)(hl:l.length<=10000000):
   B2 prog 142 [.ref 1000000 0 l.length l.length,.p (.int .i64 x)] [(1000000,.arr 3 1 (BZ l))] λ h r=>h=[(1000000,.arr 3 1 (BZ l))]/\r= .p (.bool (decide (x∈l))):=by
 refine B1 func142 rfl Ahb (by simp[Tryz.f142]) ?_;simp only[go_sem,BY];refine PQ rfl rfl ?_;simp only[go_sem,JW];refine Vq (Ag5 l x hl) ?_;rintro h' r ⟨rfl,rfl⟩;simp only[go_sem,Z6]
theorem Yz(rows:List (List Int))(i k:Nat)(x:Int)(hi:i<rows.length)(hl:(rows.getD i []).length<=10000000):
   B2 prog 142 [.nr 1000000 i (rows.getD i []).length k,.p (.int .i64 x)] [(1000000,.DF 22 3 1 k (encR rows) none)] λ h r=>h=[(1000000,.DF 22 3 1 k (encR rows) none)]/\r= .p (.bool (decide (x∈rows.getD i []))):=by
 have hg:(encR rows)[i]?=some (BZ (rows.getD i [])):=by simp[encR,List.getD,hi]
 refine (Vv (ps:=[.int .i64 x]) hg (BY _).symm (YA (rows.getD i []) x hl) (R':=λ es r=>es=BZ (rows.getD i [])/\r= .p (.bool (decide (x∈rows.getD i [])))) ?_).mono ?_
 . rintro h' r ⟨rfl,rfl⟩;exact ⟨_,rfl,BY _,.inr ⟨_,rfl⟩,rfl,rfl⟩
 . rintro h' r ⟨OE,rfl,_,rfl,rfl⟩;refine ⟨?_,rfl⟩
   congr 4
   apply List.ext_getElem?;intro j;rw[BR];split
   . rename_i e;subst e;rw[hg];simp[encR,hi]
   . rfl
def CM.Fw(b:CM)(x y:List UInt8):Int×CM:=
 match Es b.mb x,Es b.mb y with
 | some i,some j=>if i=j then (10,b) else if j∈b.nx.getD i.toNat [] then (11,b) else if (b.nx.getD i.toNat []).length=4 then (14,b) else
     (0,{b with nx:=b.nx.set i.toNat (b.nx.getD i.toNat []++[j])})
 | _,_=>(9,b)
theorem Ari(b:CM)(k:Nat)(x y:List UInt8)(hm:∀x i,Es b.mb x=some i->∃n:Nat,i=(n:Int)/\n<b.nx.length)(hr:∀i,(b.nx.getD i []).length<=24):
   B2 prog 110 [.ptr 1000000 0,.p (.str x),.p (.str y)] (b.h k) λ h r=>∃k',h=(b.Fw x y).2.h k'/\r= .p (.int .i64 (b.Fw x y).1):=by
 refine B1 func110 rfl Ahx (by simp[Tryz.f110]) ?_;rw[CV b k];cases c1:Es b.mb x with
 | none=>
   simp only[go_sem,KK.fit,DW,D6,EV,c1,Bd,Option.getD_none];have hv:b.Fw x y=(9,b):=by unfold CM.Fw;rw[c1]
   rw[hv];exact ⟨k,rfl,rfl⟩
 | some i=>
   cases c2:Es b.mb y with
   | none=>
     simp only[go_sem,KK.fit,DW,D6,EV,c1,c2,Bd,Option.getD_none];have hv:b.Fw x y=(9,b):=by unfold CM.Fw;rw[c1,c2]
     rw[hv];exact ⟨k,rfl,rfl⟩
   | some j=>
     obtain ⟨n,rfl,hn⟩:=hm x i c1;cases c3:decide ((n:Int)=j);rotate_left
     . simp only[go_sem,KK.fit,DW,D6,EV,c1,c2,c3];have c3':(n:Int)=j:=Ad c3;have hv:b.Fw x y=(10,b):=by unfold CM.Fw;rw[c1,c2];simp only;rw[if_pos c3']
       rw[hv];exact ⟨k,rfl,rfl⟩
     have c3':¬(n:Int)=j:=Ae c3;have hn0:(0:Int)<=(n:Int)/\(n:Int)<(b.nx.length:Int):=by omega
     simp only[go_sem,KK.fit,DW,D6,EV,c1,c2,c3,hn0,Ab,NA,BY,IA];refine Cq (Yz b.nx n k j hn (by have:=hr n;omega)) ?_;cases c4:decide (j∈b.nx.getD n []);rotate_left
     . simp only[go_sem,c4];have c4':j∈b.nx.getD n []:=Ad c4;have hv:b.Fw x y=(11,b):=by unfold CM.Fw;rw[c1,c2];simp only[Ab];rw[if_neg c3',if_pos c4']
       rw[hv];exact ⟨k,rfl,rfl⟩
     have c4':¬j∈b.nx.getD n []:=Ae c4;have hrn:=hr n;cases c5:decide (((b.nx.getD n []).length:Int)=4);rotate_left
     . simp only[go_sem,c4,c5,hn0,Ab,NA,BY,IA];have c5':(b.nx.getD n []).length=4:=by have:=Ad c5;omega
       have hv:b.Fw x y=(14,b):=by unfold CM.Fw;rw[c1,c2];simp only[Ab];rw[if_neg c3',if_neg c4',if_pos c5']
       rw[hv];exact ⟨k,rfl,rfl⟩
     have c5':¬(b.nx.getD n []).length=4:=by have:=Ae c5;omega
     simp only[go_sem,c4,c5,hn0,Ab,NA,BY,IA];refine Dp [(1000000,.box b.box)] mixed (p:=[(0,0),(1,0),(2,0),(3,0),(4,0),(5,0),(6,0),(7,0),(8,0),(9,0),(10,0),(11,0),(12,0),(14,0),(15,1),(13,2),(16,2),(17,0),(18,3)]) (by kernel_rfl) (by simp[C8,get,CM.box]) ?_;unfold CM.box;simp only[go_sem,hn0,Ab,NA,BY,IA];refine ⟨⟨Dy _ _ rfl,hn,by omega,by omega⟩,?_⟩;have hv:b.Fw x y=(0,{b with nx:=b.nx.set n (b.nx.getD n []++[j])}):=by
       unfold CM.Fw;rw[c1,c2];simp only[Ab];rw[if_neg c3',if_neg c4',if_neg c5']
     rw[hv];refine ⟨k+1+1,?_,rfl⟩;simp only[CV,r4,D0,Bz]
def CM.EO(b:CM)(d:Dc):Int×CM:=
 if b.Kp (d.names.getD 0 [])=true then (8,b) else match Es b.mb (d.names.getD 1 []),Es b.mb (d.names.getD 2 []) with
 | some i,some j=>if decide (d.Cb.getD 0 0<1)=true then (12,b) else if decide (4<d.Cb.getD 0 0)=true then (12,b) else if b.sp.length=6 then (14,b) else
     (0,{b with ms:=IJ b.ms (d.names.getD 0 []) b.sp.length,sp:=b.sp++[⟨d.names.getD 0 [],decide (d.word=4),i,j,d.Cb.getD 0 0,0⟩],ba:=b.ba++[b.sl],sl:=b.sl+d.Cb.getD 0 0})
 | _,_=>(9,b)
theorem Aqo(b:CM)(k:Nat)(d:Dc)(h1:3<=d.names.length)(h2:1<=d.Cb.length)(hb:b.sp.length<=6)(VE:b.ba.length<=6)(hs:0<=b.sl/\b.sl<=1000):
   B2 prog 113 [.ptr 1000000 0,d.d] (b.h k) λ h r=>∃k',h=(b.EO d).2.h k'/\r= .p (.int .i64 (b.EO d).1):=by
 have e1:=DH d.names 0 (by omega);have e4:=DH d.names 1 (by omega);have e5:=DH d.names 2 (by omega);have e2:=Cm d.Cb 0 (by omega);refine B1 func113 rfl Ahu (by simp[Tryz.f113]) ?_;rw[CV b k];unfold Dc.d;simp only[go_sem];cases c:b.Kp (d.names.getD 0 []);rotate_left
 . cases c1:Es b.mb (d.names.getD 1 [])<;>cases c2:Es b.mb (d.names.getD 2 [])<;>
   . skip
     refine Dp [(1000000,.box b.box),(3,.box [.p (.int .i64 d.word),.p (.int .i64 d.line),.p (.sl (CB d.names)),.p (.sl (BZ d.Cb))]),(1000004,.mp (KD b.mb))] mixed (p:=[(0,0),(1,0),(2,0),(3,0),(4,0),(5,0),(6,0),(7,0),(8,0),(9,0),(10,0),(11,0),(12,0),(13,0)]) (by kernel_rfl) (by simp[C8,get,CM.box]) ?_;unfold CM.box;simp only[go_sem,B5,e1,e4,e5,KK.fit,DW,D6,EV,c1,c2,Bd];refine ⟨by omega,?_⟩;refine Dp [(1000000,.box b.box),(3,.box [.p (.int .i64 d.word),.p (.int .i64 d.line),.p (.sl (CB d.names)),.p (.sl (BZ d.Cb))]),(1000004,.mp (KD b.mb))] mixed (p:=[(0,0),(1,0),(2,0),(3,0),(4,0),(5,0),(6,0),(7,0),(8,0),(9,0),(10,0),(11,0),(12,0),(13,0)]) (by kernel_rfl) (by simp[C8,get,CM.box]) ?_;unfold CM.box;simp only[go_sem,B5,e1,e4,e5,KK.fit,DW,D6,EV,c1,c2,Bd];refine ⟨by omega,by omega,?_⟩;refine Cq (Iu b k _) ?_;simp only[go_sem,CV b k,c];have hv:b.EO d=(8,b):=by unfold CM.EO;simp only[c];try simp
     rw[hv];exact ⟨k,rfl,rfl⟩
 cases c1:Es b.mb (d.names.getD 1 []) with
 | none=>
   cases c2:Es b.mb (d.names.getD 2 [])<;>
   . skip
     refine Dp [(1000000,.box b.box),(3,.box [.p (.int .i64 d.word),.p (.int .i64 d.line),.p (.sl (CB d.names)),.p (.sl (BZ d.Cb))]),(1000004,.mp (KD b.mb))] mixed (p:=[(0,0),(1,0),(2,0),(3,0),(4,0),(5,0),(6,0),(7,0),(8,0),(9,0),(10,0),(11,0),(12,0),(13,0)]) (by kernel_rfl) (by simp[C8,get,CM.box]) ?_;unfold CM.box;simp only[go_sem,B5,e1,e4,e5,KK.fit,DW,D6,EV,c1,c2,Bd];refine ⟨by omega,?_⟩;refine Dp [(1000000,.box b.box),(3,.box [.p (.int .i64 d.word),.p (.int .i64 d.line),.p (.sl (CB d.names)),.p (.sl (BZ d.Cb))]),(1000004,.mp (KD b.mb))] mixed (p:=[(0,0),(1,0),(2,0),(3,0),(4,0),(5,0),(6,0),(7,0),(8,0),(9,0),(10,0),(11,0),(12,0),(13,0)]) (by kernel_rfl) (by simp[C8,get,CM.box]) ?_;unfold CM.box;simp only[go_sem,B5,e1,e4,e5,KK.fit,DW,D6,EV,c1,c2,Bd];refine ⟨by omega,by omega,?_⟩;refine Cq (Iu b k _) ?_;simp only[go_sem,CV b k,c];have hv:b.EO d=(9,b):=by unfold CM.EO;simp only[c,c1];try simp
     rw[hv];exact ⟨k,rfl,rfl⟩
 | some i=>
   cases c2:Es b.mb (d.names.getD 2 []) with
   | none=>
     refine Dp [(1000000,.box b.box),(3,.box [.p (.int .i64 d.word),.p (.int .i64 d.line),.p (.sl (CB d.names)),.p (.sl (BZ d.Cb))]),(1000004,.mp (KD b.mb))] mixed (p:=[(0,0),(1,0),(2,0),(3,0),(4,0),(5,0),(6,0),(7,0),(8,0),(9,0),(10,0),(11,0),(12,0),(13,0)]) (by kernel_rfl) (by simp[C8,get,CM.box]) ?_;unfold CM.box;simp only[go_sem,B5,e1,e4,e5,KK.fit,DW,D6,EV,c1,c2,Bd];refine ⟨by omega,?_⟩;refine Dp [(1000000,.box b.box),(3,.box [.p (.int .i64 d.word),.p (.int .i64 d.line),.p (.sl (CB d.names)),.p (.sl (BZ d.Cb))]),(1000004,.mp (KD b.mb))] mixed (p:=[(0,0),(1,0),(2,0),(3,0),(4,0),(5,0),(6,0),(7,0),(8,0),(9,0),(10,0),(11,0),(12,0),(13,0)]) (by kernel_rfl) (by simp[C8,get,CM.box]) ?_;unfold CM.box;simp only[go_sem,B5,e1,e4,e5,KK.fit,DW,D6,EV,c1,c2,Bd];refine ⟨by omega,by omega,?_⟩;refine Cq (Iu b k _) ?_;simp only[go_sem,CV b k,c];have hv:b.EO d=(9,b):=by unfold CM.EO;simp only[c,c1,c2];try simp
     rw[hv];exact ⟨k,rfl,rfl⟩
   | some j=>
     cases c3:decide (d.Cb.getD 0 0<1);rotate_left
     . skip
       refine Dp [(1000000,.box b.box),(3,.box [.p (.int .i64 d.word),.p (.int .i64 d.line),.p (.sl (CB d.names)),.p (.sl (BZ d.Cb))]),(1000004,.mp (KD b.mb))] mixed (p:=[(0,0),(1,0),(2,0),(3,0),(4,0),(5,0),(6,0),(7,0),(8,0),(9,0),(10,0),(11,0),(12,0),(13,0)]) (by kernel_rfl) (by simp[C8,get,CM.box]) ?_;unfold CM.box;simp only[go_sem,B5,e1,e4,e5,KK.fit,DW,D6,EV,c1,c2];refine ⟨by omega,?_⟩;refine Dp [(1000000,.box b.box),(3,.box [.p (.int .i64 d.word),.p (.int .i64 d.line),.p (.sl (CB d.names)),.p (.sl (BZ d.Cb))]),(1000004,.mp (KD b.mb))] mixed (p:=[(0,0),(1,0),(2,0),(3,0),(4,0),(5,0),(6,0),(7,0),(8,0),(9,0),(10,0),(11,0),(12,0),(13,0)]) (by kernel_rfl) (by simp[C8,get,CM.box]) ?_;unfold CM.box;simp only[go_sem,B5,e1,e4,e5,KK.fit,DW,D6,EV,c1,c2];refine ⟨by omega,by omega,?_⟩;refine Cq (Iu b k _) ?_;simp only[go_sem,CV b k,c,BY,e2,c3];refine ⟨by omega,?_⟩;have hv:b.EO d=(12,b):=by unfold CM.EO;simp only[c,c1,c2,c3];try simp
       rw[hv];exact ⟨k,rfl,rfl⟩
     cases c4:decide (4<d.Cb.getD 0 0);rotate_left
     . skip
       refine Dp [(1000000,.box b.box),(3,.box [.p (.int .i64 d.word),.p (.int .i64 d.line),.p (.sl (CB d.names)),.p (.sl (BZ d.Cb))]),(1000004,.mp (KD b.mb))] mixed (p:=[(0,0),(1,0),(2,0),(3,0),(4,0),(5,0),(6,0),(7,0),(8,0),(9,0),(10,0),(11,0),(12,0),(13,0)]) (by kernel_rfl) (by simp[C8,get,CM.box]) ?_;unfold CM.box;simp only[go_sem,B5,e1,e4,e5,KK.fit,DW,D6,EV,c1,c2];refine ⟨by omega,?_⟩;refine Dp [(1000000,.box b.box),(3,.box [.p (.int .i64 d.word),.p (.int .i64 d.line),.p (.sl (CB d.names)),.p (.sl (BZ d.Cb))]),(1000004,.mp (KD b.mb))] mixed (p:=[(0,0),(1,0),(2,0),(3,0),(4,0),(5,0),(6,0),(7,0),(8,0),(9,0),(10,0),(11,0),(12,0),(13,0)]) (by kernel_rfl) (by simp[C8,get,CM.box]) ?_;unfold CM.box;simp only[go_sem,B5,e1,e4,e5,KK.fit,DW,D6,EV,c1,c2];refine ⟨by omega,by omega,?_⟩;refine Cq (Iu b k _) ?_;simp only[go_sem,CV b k,c,BY,e2,c3,c4];refine ⟨by omega,by omega,?_⟩;have hv:b.EO d=(12,b):=by unfold CM.EO;simp only[c,c1,c2,c3,c4];try simp
       rw[hv];exact ⟨k,rfl,rfl⟩
     have c3':¬d.Cb.getD 0 0<1:=Ae c3;have c4':¬4<d.Cb.getD 0 0:=Ae c4;cases c5:decide ((b.sp.length:Int)=6);rotate_left
     . skip
       refine Dp [(1000000,.box b.box),(3,.box [.p (.int .i64 d.word),.p (.int .i64 d.line),.p (.sl (CB d.names)),.p (.sl (BZ d.Cb))]),(1000004,.mp (KD b.mb))] mixed (p:=[(0,0),(1,0),(2,0),(3,0),(4,0),(5,0),(6,0),(7,0),(8,0),(9,0),(10,0),(11,0),(12,0),(13,0)]) (by kernel_rfl) (by simp[C8,get,CM.box]) ?_;unfold CM.box;simp only[go_sem,B5,e1,e4,e5,KK.fit,DW,D6,EV,c1,c2];refine ⟨by omega,?_⟩;refine Dp [(1000000,.box b.box),(3,.box [.p (.int .i64 d.word),.p (.int .i64 d.line),.p (.sl (CB d.names)),.p (.sl (BZ d.Cb))]),(1000004,.mp (KD b.mb))] mixed (p:=[(0,0),(1,0),(2,0),(3,0),(4,0),(5,0),(6,0),(7,0),(8,0),(9,0),(10,0),(11,0),(12,0),(13,0)]) (by kernel_rfl) (by simp[C8,get,CM.box]) ?_;unfold CM.box;simp only[go_sem,B5,e1,e4,e5,KK.fit,DW,D6,EV,c1,c2];refine ⟨by omega,by omega,?_⟩;refine Cq (Iu b k _) ?_;simp only[go_sem,CV b k,c,BY,e2,c3,c4,c5,Cg];refine ⟨by omega,by omega,?_⟩;have c5':b.sp.length=6:=by have:=Ad c5;omega
       have hv:b.EO d=(14,b):=by unfold CM.EO;simp only[c,c1,c2,c3,c4,c5'];try simp
       rw[hv];exact ⟨k,rfl,rfl⟩
     have c5':¬b.sp.length=6:=by have:=Ae c5;omega
     refine Dp [(1000000,.box b.box),(3,.box [.p (.int .i64 d.word),.p (.int .i64 d.line),.p (.sl (CB d.names)),.p (.sl (BZ d.Cb))]),(1000004,.mp (KD b.mb))] mixed (p:=[(0,0),(1,0),(2,0),(3,0),(4,0),(5,0),(6,0),(7,0),(8,0),(9,0),(10,0),(11,0),(12,0),(13,0)]) (by kernel_rfl) (by simp[C8,get,CM.box]) ?_;unfold CM.box;simp only[go_sem,B5,e1,e4,e5,KK.fit,DW,D6,EV,c1,c2];refine ⟨by omega,?_⟩;refine Dp [(1000000,.box b.box),(3,.box [.p (.int .i64 d.word),.p (.int .i64 d.line),.p (.sl (CB d.names)),.p (.sl (BZ d.Cb))]),(1000004,.mp (KD b.mb))] mixed (p:=[(0,0),(1,0),(2,0),(3,0),(4,0),(5,0),(6,0),(7,0),(8,0),(9,0),(10,0),(11,0),(12,0),(13,0)]) (by kernel_rfl) (by simp[C8,get,CM.box]) ?_;unfold CM.box;simp only[go_sem,B5,e1,e4,e5,KK.fit,DW,D6,EV,c1,c2];refine ⟨by omega,by omega,?_⟩;refine Cq (Iu b k _) ?_;simp only[go_sem,CV b k,c,BY,e2,c3,c4,c5,Cg];refine ⟨by omega,by omega,?_⟩;refine Dp [(1000000,.box b.box),(3,.box [.p (.int .i64 d.word),.p (.int .i64 d.line),.p (.sl (CB d.names)),.p (.sl (BZ d.Cb))]),(1000003,.arr 68 6 (CR b.sp))] mixed (p:=[(0,0),(1,0),(2,0),(3,0),(4,0),(5,0),(6,0),(7,0),(8,0),(9,0),(10,0),(11,0),(12,0),(13,0),(14,3)]) (by kernel_rfl) (by simp[C8,get,CM.box]) ?_;unfold CM.box;simp only[go_sem,B5,e1,Cg,KK.fit,DW,Ua,Pd.flat];refine ⟨by omega,?_⟩;refine Dp [(1000000,.box b.box),(3,.box [.p (.int .i64 d.word),.p (.int .i64 d.line),.p (.sl (CB d.names)),.p (.sl (BZ d.Cb))])] mixed (p:=[(0,0),(1,0),(2,0),(3,0),(4,0),(5,0),(6,0),(7,0),(8,0),(9,0),(10,0),(11,0),(12,0),(13,0),(14,0),(15,0),(16,0),(17,0),(18,0),(19,0),(20,1),(21,2),(22,0),(23,0),(24,0),(25,3)]) (by kernel_rfl) (by simp[C8,get,CM.box]) ?_;unfold CM.box;simp only[go_sem,B5,e1,BY,e2,Cg,Aq];refine ⟨by omega,by omega,⟨Dy _ _ rfl,by omega,by omega⟩,?_⟩;refine Dp [(1000000,.box (CM.box {b with sp:=b.sp++[⟨d.names.getD 0 [],decide (d.word=4),i,j,d.Cb.getD 0 0,0⟩]}))] mixed (p:=[(0,0),(1,0),(2,0),(3,0),(4,0),(5,0),(6,0),(7,0),(8,0),(9,1),(10,2),(11,0),(12,0),(13,3)]) (by kernel_rfl) (by simp[C8,get,CM.box,Cg]) ?_;unfold CM.box;simp only[go_sem,BY,Aq];refine ⟨⟨Dy _ _ rfl,by omega,by omega⟩,?_⟩;have hw:IntKind.i64.wrap (b.sl+d.Cb.getD 0 0)=b.sl+d.Cb.getD 0 0:=by rw[B3]<;>omega
     refine Dp [(1000000,.box (CM.box {b with sp:=b.sp++[⟨d.names.getD 0 [],decide (d.word=4),i,j,d.Cb.getD 0 0,0⟩],ba:=b.ba++[b.sl]})),(3,.box [.p (.int .i64 d.word),.p (.int .i64 d.line),.p (.sl (CB d.names)),.p (.sl (BZ d.Cb))])] mixed (p:=[(0,0),(1,0),(2,0),(3,0),(4,0),(5,0),(6,0),(7,0),(8,0),(9,0),(10,0),(11,3)]) (by kernel_rfl) (by simp[C8,get,CM.box,Cg,BY]) ?_;unfold CM.box;simp only[go_sem,BY,e2,hw,Aq];refine ⟨by omega,?_⟩;have hv:b.EO d=(0,{b with ms:=IJ b.ms (d.names.getD 0 []) b.sp.length,sp:=b.sp++[⟨d.names.getD 0 [],decide (d.word=4),i,j,d.Cb.getD 0 0,0⟩],ba:=b.ba++[b.sl],sl:=b.sl+d.Cb.getD 0 0}):=by
       unfold CM.EO;simp only[c,c1,c2,c3,c4,if_neg c5',AM,Bb]
     rw[hv];refine ⟨k,?_,rfl⟩;simp only[CV,Oe,D0,Aq,An,Ax,Bf]
def inV(n lo hi:Int):Bool:=decide (lo<=n)&&decide (n<=hi)
theorem NR(n lo hi:Int):B2 prog 40 [.p (.int .i64 n),.p (.int .i64 lo),.p (.int .i64 hi)] [] λ h r=>h=[]/\r= .p (.bool (inV n lo hi)):=by
 refine B1 func40 rfl p6 (by simp[Tryz.f40]) ?_;cases c:decide (lo<=n)
 . simp only[go_sem,c];try simp[inV,c]
 . simp only[go_sem,c];try simp[inV,c]
def YE(q a d p:Int):Bool:=inV q 1 8&&(inV a 0 4&&(inV d 0 3&&inV p 1 16))
theorem Tz(q a d p:Int):B2 prog 41 [.agg [.p (.int .i64 q),.p (.int .i64 a),.p (.int .i64 d),.p (.int .i64 p)]] [] λ h r=>h=[]/\r= .p (.bool (YE q a d p)):=by
 refine B1 func41 rfl p5 (by simp[Tryz.f41]) ?_;simp only[go_sem];refine Cq ((NR q 1 8)) ?_;cases c1:inV q 1 8
 . simp only[go_sem,c1];try simp[YE,c1]
 simp only[go_sem,c1];refine Cq ((NR a 0 4)) ?_;cases c2:inV a 0 4
 . simp only[go_sem,c2];try simp[YE,c1,c2]
 simp only[go_sem,c2];refine Cq ((NR d 0 3)) ?_;cases c3:inV d 0 3
 . simp only[go_sem,c3];try simp[YE,c1,c2,c3]
 simp only[go_sem,c3];refine Cq ((NR p 1 16)) ?_;simp only[go_sem];try simp[YE,c1,c2,c3]
def CM.D3(b:CM)(d:Dc):Int×CM:=
 if b.cf=true then (11,b) else if YE (d.Cb.getD 0 0) (d.Cb.getD 1 0) (d.Cb.getD 2 0) (d.Cb.getD 3 0)=false then (19,b) else
   (0,{b with cq:=d.Cb.getD 0 0,ca:=d.Cb.getD 1 0,cd:=d.Cb.getD 2 0,cp:=d.Cb.getD 3 0,cf:=true})
theorem Aiq(b:CM)(k:Nat)(d:Dc)(h2:4<=d.Cb.length):
   B2 prog 112 [.ptr 1000000 0,d.d] (b.h k) λ h r=>∃k',h=(b.D3 d).2.h k'/\r= .p (.int .i64 (b.D3 d).1):=by
 have e0:=Cm d.Cb 0 (by omega);have e1:=Cm d.Cb 1 (by omega);have e2:=Cm d.Cb 2 (by omega);have e3:=Cm d.Cb 3 (by omega);refine B1 func112 rfl Ahv (by simp[Tryz.f112]) ?_;rw[CV b k];unfold Dc.d;simp only[go_sem];refine Dp [(3,.box [.p (.int .i64 d.word),.p (.int .i64 d.line),.p (.sl (CB d.names)),.p (.sl (BZ d.Cb))])] mixed (p:=[(0,0),(1,0),(2,0),(3,0),(4,0),(5,0),(6,0),(7,0),(8,0),(9,0),(10,0),(11,0),(12,0),(13,0),(14,0),(15,0),(16,0),(17,1),(18,3)]) (by kernel_rfl) (by simp[C8,get]) ?_;cases c:b.cf;rotate_left
 . simp only[go_sem,BY,e0,e1,e2,e3,c];refine ⟨by omega,by omega,by omega,by omega,?_⟩;have hv:b.D3 d=(11,b):=by unfold CM.D3;rw[if_pos c]
   rw[hv];refine ⟨k,?_,rfl⟩;rw[CV,c]
 simp only[go_sem,BY,e0,e1,e2,e3,c];refine ⟨by omega,by omega,by omega,by omega,?_⟩;refine Cq ((Tz (d.Cb.getD 0 0) (d.Cb.getD 1 0) (d.Cb.getD 2 0) (d.Cb.getD 3 0))) ?_;cases c2:YE (d.Cb.getD 0 0) (d.Cb.getD 1 0) (d.Cb.getD 2 0) (d.Cb.getD 3 0)
 . simp only[go_sem,c2];have hv:b.D3 d=(19,b):=by unfold CM.D3;rw[c,if_neg AJ,if_pos c2]
   rw[hv];refine ⟨k,?_,rfl⟩;rw[CV,c]
 simp only[go_sem,c2];have hv:b.D3 d=(0,{b with cq:=d.Cb.getD 0 0,ca:=d.Cb.getD 1 0,cd:=d.Cb.getD 2 0,cp:=d.Cb.getD 3 0,cf:=true}):=by unfold CM.D3;rw[c,if_neg AJ,c2,if_neg (by simp)]
 rw[hv];exact ⟨k,rfl,rfl⟩
def Agb(l:List (Int×Int))(x:Int×Int):Int:=if x∈l then ((l.idxOf x:Nat):Int) else -1
theorem WV{x:Int×Int}:∀(l:List (Int×Int)) (i:Nat),i<l.length->l.getD i (0,0)=x->x∉l.take i->l.idxOf x=i
 | [],i,h,_,_=>by simp at h
 | y::r,0,_,h,_=>by simp at h;subst h;simp
 | y::r,i+1,h,h1,h2=>by
   simp only[List.take_succ_cons,AG,not_or] at h2;have:=WV r i (by simpa using h) (by simpa [List.getD] using h1) h2.2;rw[List.idxOf_cons,this];have:(y==x)=false:=by simpa using λ e:y=x=>h2.1 e.symm
   rw[this];rfl
theorem Arq{l:List (Int×Int)}{x:Int×Int}{i:Nat}(hi:i<l.length)(hx:l.getD i (0,0)=x)(hn:x∉l.take i):Agb l x=(i:Int):=by
 have h1:x∈l:=by rw[<-hx];exact CF l i (0,0) hi
 unfold Agb;rw[if_pos h1,WV l i hi hx hn]
theorem Z7(l:List (Int×Int))(x:Int×Int):decide (0<=Agb l x)=decide (x∈l):=by
 unfold Agb;by_cases h:x∈l
 . rw[if_pos h];simp[h]
 . rw[if_neg h];simp[h]
theorem Aos(l:List (Int×Int))(i:Nat)(h:i<l.length):(IS l).getD i []=[.int .i64 (l.getD i (0,0)).1,.int .i64 (l.getD i (0,0)).2]:=by simp[IS,List.getD,h]
theorem Ac0(l:List (Int×Int))(x:Int×Int)(hl:l.length<=10000000):
   B2 prog 172 [.ref 1000000 0 l.length l.length,.agg [.p (.int .i64 x.1),.p (.int .i64 x.2)]] [(1000000,.arr 120 2 (IS l))] λ h r=>h=[(1000000,.arr 120 2 (IS l))]/\r= .p (.int .i64 (Agb l x)):=by
 refine B1 func172 rfl Agz (by simp[Tryz.f172]) ?_;simp only[go_sem,EW];refine B7 (λ i=>⟨[(0,.ref 1000000 0 l.length l.length),(3,.ptr 3 0),(4,.p (.int .i64 0)),(7,.p (.int .i64 l.length)),(8,.p (.int .i64 (i:Nat)))],[(3,.box [.p (.int .i64 x.1),.p (.int .i64 x.2)]),(1000000,.arr 120 2 (IS l))],19⟩) (λ i=>i<=l.length/\x∉l.take i) (λ i=>l.length - i) 0 ⟨AE _,by simp⟩ (BW (by simp[ZF,IS])) ?_;rintro i n ⟨hi,he⟩ ih;simp only[go_sem,EW];refine Cy (λ h2=>?_) (λ h2=>?_)
 . have Cv:i<l.length:=by simp at h2;omega
   have hw:=Cd i (by omega);have hg:=Aos l i Cv;have C6:(0:Int)<=(i:Int)/\(i:Int)<(l.length:Int):=by omega
   have Jr:=λ h=>Arq (x:=x) Cv h he;have hx:l[i]?=some (l.getD i (0,0)):=by simp[List.getD,Cv]
   generalize l.getD i (0,0)=y at*;simp only[go_sem,EW,Ab,hg,C6];refine Dp [(3,.box [.p (.int .i64 x.1),.p (.int .i64 x.2)]),(1000000,.arr 120 2 (IS l))] mixed (p:=[(0,0),(1,0),(2,0),(3,0),(4,0),(5,0)]) (by kernel_rfl) (by simp[C8,get]) ?_;cases h1:decide (x.1=y.1)
   . simp only[go_sem,EW,Ab,hg,C6,h1,hw];have Dt:¬x=y:=λ e=>(Ae h1) (by rw[e]);refine ih (i+1) _ ⟨Cv,by rw[BP,hx];simp[he,Dt]⟩ (by omega) ?_
     (refine BW ?_;simp[ZF,IS];done)
   cases h2:decide (x.2=y.2)
   . simp only[go_sem,EW,Ab,hg,C6,h1,h2,hw];have Dt:¬x=y:=λ e=>(Ae h2) (by rw[e]);refine ih (i+1) _ ⟨Cv,by rw[BP,hx];simp[he,Dt]⟩ (by omega) ?_
     (refine BW ?_;simp[ZF,IS];done)
   . simp only[go_sem,EW,Ab,hg,C6,h1,h2,hw];rw[Jr (Prod.ext (Ad h1).symm (Ad h2).symm)]
 . simp only[go_sem];have:i=l.length:=by simp at h2;omega
   subst this;rw[Ar] at he;simp[Agb,he]
theorem Wd(l:List (Int×Int))(x:Int×Int)(hl:l.length<=10000000):
   B2 prog 143 [.ref 1000000 0 l.length l.length,.agg [.p (.int .i64 x.1),.p (.int .i64 x.2)]] [(1000000,.arr 120 2 (IS l))] λ h r=>h=[(1000000,.arr 120 2 (IS l))]/\r= .p (.bool (decide (x∈l))):=by
 refine B1 func143 rfl Aha (by simp[Tryz.f143]) ?_;simp only[go_sem,EW];refine PQ rfl rfl ?_;simp only[go_sem,JW];refine Vq (Ac0 l x hl) ?_;rintro h' r ⟨rfl,rfl⟩;simp only[go_sem,Z7]
def CM.DM(b:CM)(d:Dc):Int×CM:=
 match Es b.ms (d.names.getD 0 []) with
 | none=>(9,b)
 | some i=>if (b.sp.getD i.toNat Cu).CE=false then (9,b) else if decide (d.Cb.getD 0 0<1)=true then (12,b) else if decide ((b.sp.getD i.toNat Cu).Cs<d.Cb.getD 0 0)=true then (12,b) else
     if (i,d.Cb.getD 0 0)∈b.pl then (13,b) else if b.pl.length=8 then (14,b) else (0,{b with pl:=b.pl++[(i,d.Cb.getD 0 0)]})
theorem Akg(b:CM)(k:Nat)(d:Dc)(h1:1<=d.names.length)(h2:1<=d.Cb.length)(hb:b.pl.length<=8)(hm:∀x i,Es b.ms x=some i->∃n:Nat,i=(n:Int)/\n<b.sp.length):
   B2 prog 111 [.ptr 1000000 0,d.d] (b.h k) λ h r=>∃k',h=(b.DM d).2.h k'/\r= .p (.int .i64 (b.DM d).1):=by
 have e1:=DH d.names 0 (by omega);have e2:=Cm d.Cb 0 (by omega);refine B1 func111 rfl Ahw (by simp[Tryz.f111]) ?_;rw[CV b k];unfold Dc.d;simp only[go_sem];refine Dp [(1000000,.box b.box),(3,.box [.p (.int .i64 d.word),.p (.int .i64 d.line),.p (.sl (CB d.names)),.p (.sl (BZ d.Cb))]),(1000005,.mp (KD b.ms))] mixed (p:=[(0,0),(1,0),(2,0),(3,0),(4,0),(5,0),(6,0),(7,0),(8,0),(9,0),(10,0),(11,0),(12,0),(13,0)]) (by kernel_rfl) (by simp[C8,get,CM.box]) ?_;unfold CM.box;cases c1:Es b.ms (d.names.getD 0 []) with
 | none=>
   simp only[go_sem,B5,e1,KK.fit,DW,D6,EV,c1,Bd,BY,e2];refine ⟨by omega,by omega,?_⟩;have hv:b.DM d=(9,b):=by unfold CM.DM;rw[c1]
   rw[hv];exact ⟨k,rfl,rfl⟩
 | some i=>
   obtain ⟨n,rfl,hn⟩:=hm _ i c1;have hn0:(0:Int)<=(n:Int)/\(n:Int)<(b.sp.length:Int):=by omega
   have hg:=EB b.sp n hn;cases c2:(b.sp.getD n Cu).CE
   . simp only[go_sem,B5,e1,KK.fit,DW,D6,EV,c1,BY,e2,Cg,hn0,Ab,hg,c2];refine ⟨by omega,by omega,?_⟩;have hv:b.DM d=(9,b):=by unfold CM.DM;rw[c1];simp only[Ab,c2,AP]
     rw[hv];exact ⟨k,rfl,rfl⟩
   cases c3:decide (d.Cb.getD 0 0<1);rotate_left
   . simp only[go_sem,B5,e1,KK.fit,DW,D6,EV,c1,BY,e2,Cg,hn0,Ab,hg,c2,c3];refine ⟨by omega,by omega,?_⟩;have hv:b.DM d=(12,b):=by unfold CM.DM;rw[c1];simp only[Ab,c2,c3,BJ,Bb,AP]
     rw[hv];exact ⟨k,rfl,rfl⟩
   cases c4:decide ((b.sp.getD n Cu).Cs<d.Cb.getD 0 0);rotate_left
   . simp only[go_sem,B5,e1,KK.fit,DW,D6,EV,c1,BY,e2,Cg,hn0,Ab,hg,c2,c3,c4];refine ⟨by omega,by omega,?_⟩;have hv:b.DM d=(12,b):=by unfold CM.DM;rw[c1];simp only[Ab,c2,c3,c4,BJ,AM,Bb,AP]
     rw[hv];exact ⟨k,rfl,rfl⟩
   simp only[go_sem,B5,e1,KK.fit,DW,D6,EV,c1,BY,e2,Cg,hn0,Ab,hg,c2,c3,c4,EW];refine ⟨by omega,by omega,?_⟩;refine PQ rfl rfl ?_;simp only[go_sem,JW];refine Vq (Wd b.pl ((n:Int),d.Cb.getD 0 0) (by omega)) ?_;rintro h' r ⟨rfl,rfl⟩;cases c5:decide (((n:Int),d.Cb.getD 0 0)∈b.pl);rotate_left
   . simp only[go_sem,c5];have hv:b.DM d=(13,b):=by unfold CM.DM;rw[c1];simp only[Ab,c2,c3,c4,BJ,AM,Bb,AP,if_pos (Ad c5)]
     rw[hv];exact ⟨k,rfl,rfl⟩
   have c5':=Ae c5;cases c6:decide ((b.pl.length:Int)=8);rotate_left
   . simp only[go_sem,c5,c6,EW];have c6':b.pl.length=8:=by have:=Ad c6;omega
     have hv:b.DM d=(14,b):=by unfold CM.DM;rw[c1];simp only[Ab,c2,c3,c4,BJ,AM,Bb,AP,if_neg c5',if_pos c6']
     rw[hv];exact ⟨k,rfl,rfl⟩
   have c6':¬b.pl.length=8:=by have:=Ae c6;omega
   simp only[go_sem,c5,c6,EW];refine ⟨⟨Dy _ _ rfl,by omega,by omega⟩,?_⟩;have hv:b.DM d=(0,{b with pl:=b.pl++[((n:Int),d.Cb.getD 0 0)]}):=by unfold CM.DM;rw[c1];simp only[Ab,c2,c3,c4,BJ,AM,Bb,if_neg c5',if_neg c6']
   rw[hv];refine ⟨k,?_,rfl⟩;simp only[CV,Aib,EW,Aq,An,Ax,Bf]
def Fx{α:Type}(p:α->Bool):Nat->List α->Int
 | _,[]=>-1
 | k,x::r=>if p x then (k:Int) else Fx p (k+1) r
theorem Ib{α:Type}(p:α->Bool)(l:List α):∀(i:Nat),i<=l.length->(∀j x,j<i->l[j]?=some x->p x=false)->Fx p 0 l=Fx p i (l.drop i):=by
 intro i
 induction i with
 | zero=>intro _ _;rfl
 | succ i ih=>
   intro h1 h2;rw[ih (by omega) (λ j x hj hx=>h2 j x (by omega) hx),AT (by omega)];have:=h2 i l[i] (by omega) (Az (by omega));simp[Fx,this]
theorem Ag6(l:List (List UInt8))(hl:l.length<=140737488355328)(g:FuncId)(p:List UInt8->Bool)(hp:∀x,B2 prog g [.p (.str x)] [] λ h r=>h=[]/\r= .p (.bool (p x))):
   B2 prog 157 [.p (.sl (CB l)),.fn g []] [] λ h r=>h=[]/\r= .p (.int .i64 (Fx p 0 l)):=by
 refine B1 func157 rfl Ah5 (by simp[Tryz.f157]) ?_;simp only[go_sem,B5];refine B7 (λ i=>⟨[(0,.p (.sl (CB l))),(1,.fn g []),(7,.p (.int .i64 (l.length:Nat))),(8,.p (.int .i64 (i:Nat)))],[],19⟩) (λ i=>i<=l.length/\∀j x,j<i->l[j]?=some x->p x=false) (λ i=>l.length - i) 0 ⟨AE _,by simp⟩
   (BW (by simp[Le,Q8,C8,get,DO,Ey,Fa,D.ids,DB])) ?_
 rintro i n ⟨hi,he⟩ ih;simp only[go_sem];refine Cy (λ h2=>?_) (λ h2=>?_)
 . have Cv:i<l.length:=by simp at h2;omega
   simp only[go_sem,B5,Ab,DH l i Cv];have hw:=Cd i (by omega);have hx:l[i]?=some (l.getD i []):=by simp[List.getD,Cv]
   have QB:l.drop i=l.getD i []::l.drop (i+1):=by rw[AT Cv];simp[List.getD,Cv]
   refine ⟨by omega,Em (hp _) ?_⟩;rintro h' r ⟨rfl,rfl⟩;simp only[go_sem];cases hpx:p (l.getD i [])
   . simp only[go_sem,hw];refine ih (i+1) _ ⟨by omega,λ j x hj hjx=>?_⟩ (by omega) (BW (by simp[Le,Q8,C8,get,DO,Ey,Fa,D.ids,DB]));rcases AF.1 hj with hj | rfl
     . exact he j x hj hjx
     . rw[hx] at hjx;cases hjx;exact hpx
   . simp only[go_sem];rw[Ib p l i hi he,QB];simp only[Fx,hpx,AP,and_self]
 . simp only[go_sem];have:i=l.length:=by simp at h2;omega
   rw[Ib p l i hi he,this,AZ];simp[Fx]
theorem Ag7(l:List Int)(hl:l.length<=140737488355328)(g:FuncId)(p:Int->Bool)(hp:∀x,B2 prog g [.p (.int .i64 x)] [] λ h r=>h=[]/\r= .p (.bool (p x))):
   B2 prog 158 [.p (.sl (BZ l)),.fn g []] [] λ h r=>h=[]/\r= .p (.int .i64 (Fx p 0 l)):=by
 refine B1 func158 rfl Ah4 (by simp[Tryz.f158]) ?_;simp only[go_sem,BY];refine B7 (λ i=>⟨[(0,.p (.sl (BZ l))),(1,.fn g []),(7,.p (.int .i64 (l.length:Nat))),(8,.p (.int .i64 (i:Nat)))],[],19⟩) (λ i=>i<=l.length/\∀j x,j<i->l[j]?=some x->p x=false) (λ i=>l.length - i) 0 ⟨AE _,by simp⟩
   (BW (by simp[Le,Q8,C8,get,DO,Ey,Fa,D.ids,DB])) ?_
 rintro i n ⟨hi,he⟩ ih;simp only[go_sem];refine Cy (λ h2=>?_) (λ h2=>?_)
 . have Cv:i<l.length:=by simp at h2;omega
   simp only[go_sem,BY,Ab,Cm l i Cv];have hw:=Cd i (by omega);have hx:l[i]?=some (l.getD i 0):=by simp[List.getD,Cv]
   have QB:l.drop i=l.getD i 0::l.drop (i+1):=by rw[AT Cv];simp[List.getD,Cv]
   refine ⟨by omega,Em (hp _) ?_⟩;rintro h' r ⟨rfl,rfl⟩;simp only[go_sem];cases hpx:p (l.getD i 0)
   . simp only[go_sem,hw];refine ih (i+1) _ ⟨by omega,λ j x hj hjx=>?_⟩ (by omega) (BW (by simp[Le,Q8,C8,get,DO,Ey,Fa,D.ids,DB]));rcases AF.1 hj with hj | rfl
     . exact he j x hj hjx
     . rw[hx] at hjx;cases hjx;exact hpx
   . simp only[go_sem];rw[Ib p l i hi he,QB];simp only[Fx,hpx,AP,and_self]
 . simp only[go_sem];have:i=l.length:=by simp at h2;omega
   rw[Ib p l i hi he,this,AZ];simp[Fx]
theorem YB(l:List (List UInt8))(hl:l.length<=140737488355328)(g:FuncId)(p:List UInt8->Bool)(hp:∀x,B2 prog g [.p (.str x)] [] λ h r=>h=[]/\r= .p (.bool (p x))):
   B2 prog 125 [.p (.sl (CB l)),.fn g []] [] λ h r=>h=[]/\r= .p (.bool (decide (0<=Fx p 0 l))):=by
 refine B1 func125 rfl Ahk (by simp[Tryz.f125]) ?_;simp only[go_sem];refine Cq (Ag6 l hl g p hp) ?_;simp only[go_sem]
theorem YC(l:List Int)(hl:l.length<=140737488355328)(g:FuncId)(p:Int->Bool)(hp:∀x,B2 prog g [.p (.int .i64 x)] [] λ h r=>h=[]/\r= .p (.bool (p x))):
   B2 prog 127 [.p (.sl (BZ l)),.fn g []] [] λ h r=>h=[]/\r= .p (.bool (decide (0<=Fx p 0 l))):=by
 refine B1 func127 rfl Ahi (by simp[Tryz.f127]) ?_;simp only[go_sem];refine Cq (Ag7 l hl g p hp) ?_;simp only[go_sem]
theorem Aej(x:List UInt8):B2 prog 126 [.p (.str x)] [] λ h r=>h=[]/\r= .p (.bool (!C3 x)):=by
 refine B1 func126 rfl Ahj (by simp[Tryz.f126]) ?_;simp only[go_sem];refine Cq (Qi x) ?_;simp only[go_sem]
theorem Aei(n:Int):B2 prog 128 [.p (.int .i64 n)] [] λ h r=>h=[]/\r= .p (.bool (decide (n< -9999)||decide (9999<n))):=by
 refine B1 func128 rfl Ahh (by simp[Tryz.f128]) ?_;by_cases h1:n< -9999<;>by_cases h2:9999<n<;>
 . simp only[go_sem,h1,h2];try simp[h1,h2]
def CD(w:Int):Int×Int:=if w=1 then (1,2) else if w=2 then (2,0) else if w=3∨w=4 then (3,1) else if w=5 then (1,1) else (0,4)
theorem Zr(w:Int):B2 prog 72 [.p (.int .i64 w)] [] λ h r=>h=[]/\r= .Dv [.p (.int .i64 (CD w).1),.p (.int .i64 (CD w).2)]:=by
 refine B1 func72 rfl o6 (by simp[Tryz.f72]) ?_;by_cases h1:w=1
 . simp only[go_sem,h1];refine Cp ?_;simp only[go_sem];try simp[CD,h1]
 by_cases h2:w=2
 . simp only[go_sem,h2];refine Cp ?_;simp only[go_sem];try simp[CD,h2]
 by_cases h3:w=3
 . simp only[go_sem,h3];refine Cp ?_;simp only[go_sem];try simp[CD,h3]
 by_cases h4:w=4
 . simp only[go_sem,h4];refine Cp ?_;simp only[go_sem];try simp[CD,h4]
 by_cases h5:w=5
 . simp only[go_sem,h5];refine Cp ?_;simp only[go_sem];try simp[CD,h5]
 . simp only[go_sem,h1,h2,h3,h4,h5];refine Cp ?_;simp only[go_sem];try simp[CD,h1,h2,h3,h4,h5]
structure Fm where
 word:List UInt8
 fields:List UInt8
 more:Bool
def Iy:List Fm:=[⟨[],[],false⟩,⟨[98,108,111,99,107],[78,35,35],false⟩,⟨[108,97,110,101],[78,78],true⟩,⟨[115,116,97,116,105,111,110],[78,78,78,35],false⟩,
 ⟨[100,101,112,111,116],[78,78,78,35],false⟩,⟨[114,111,98,111,116],[78,35],false⟩,⟨[99,111,110,102,105,103],[35,35,35,35],false⟩]
def fmC(f:Fm):List Pd:=[.str f.word,.str f.fields,.bool f.more]
theorem l8:B2 prog 92 [] [] λ h r=>h=[]/\r= .agg ((Iy.flatMap fmC).map .p):=by
 refine B1 func92 rfl An1 (by simp[Tryz.f92]) ?_;simp only[go_sem];refine Cp ?_;simp only[go_sem];rfl
def Alq(num:Int)(fs:List (List UInt8)):List D:=[.p (.int .i64 num),.p (.sl (CB fs))]
theorem Afl(f:Fm)(num:Int)(w:List UInt8)(fs:List (List UInt8)):B2 prog 107 [.agg ((fmC f).map .p),.ptr 1000000 0] [(1000000,.box (Alq num (w::fs)))] λ h r=>h=[(1000000,.box (Alq num (w::fs)))]/\r= .p (.bool (decide (f.word=w))):=by
 refine B1 func107 rfl Ai0 (by simp[Tryz.f107]) ?_;unfold Alq fmC;simp only[go_sem];refine Dp [(1000000,.box [.p (.int .i64 num),.p (.sl (CB (w::fs)))]),(2,.box [.p (.str f.word),.p (.str f.fields),.p (.bool f.more)])] mixed (p:=[(0,0),(1,0),(2,0),(3,0),(4,0),(5,0),(6,0),(7,0)]) (by kernel_rfl) (by simp[C8,get]) ?_;have h0:(CB (w::fs)).getD 0 []=[.str w]:=rfl;simp only[go_sem,B5,h0];omega
def Aig(l:List Fm):List (List Pd):=l.map fmC
theorem r5(l:List Fm):(Aig l).length=l.length:=by simp[Aig]
theorem Aox(l:List Fm)(i:Nat)(h:i<l.length):(Aig l).getD i []=[.str l[i].word,.str l[i].fields,.bool l[i].more]:=by simp[Aig,List.getD,h,fmC]
theorem Ag8(l:List Fm)(hl:l.length<=140737488355328)(g:FuncId)(p:Fm->Bool)(x1 x2:Pd)
   (hp:∀x:Fm,B2 prog g [.agg [.p (.str x.word),.p (.str x.fields),.p (.bool x.more)],.ptr 1000000 0] [(1000000,.box [.p x1,.p x2])] λ h r=>h=[(1000000,.box [.p x1,.p x2])]/\r= .p (.bool (p x))):
   B2 prog 106 [.p (.sl (Aig l)),.fn g [.ptr 1000000 0]] [(1000000,.box [.p x1,.p x2])] λ h r=>h=[(1000000,.box [.p x1,.p x2])]/\r= .p (.int .i64 (Fx p 0 l)):=by
 refine B1 func106 rfl Ai1 (by simp[Tryz.f106]) ?_;simp only[go_sem,r5];refine B7 (λ i=>⟨[(0,.p (.sl (Aig l))),(1,.fn g [.ptr 1000000 0]),(7,.p (.int .i64 (l.length:Nat))),(8,.p (.int .i64 (i:Nat)))],[(1000000,.box [.p x1,.p x2])],19⟩) (λ i=>i<=l.length/\∀j x,j<i->l[j]?=some x->p x=false) (λ i=>l.length - i) 0 ⟨AE _,by simp⟩
   (BW (by simp[ZF])) ?_
 rintro i n ⟨hi,he⟩ ih;simp only[go_sem];refine Cy (λ h2=>?_) (λ h2=>?_)
 . have Cv:i<l.length:=by simp at h2;omega
   simp only[go_sem,r5,Ab,Aox l i Cv];have hw:=Cd i (by omega);have hx:l[i]?=some l[i]:=by simp
   have QB:l.drop i=l[i]::l.drop (i+1):=by rw[AT Cv]
   refine ⟨by omega,Em (hp l[i]) ?_⟩;rintro h' r ⟨rfl,rfl⟩;simp only[go_sem];cases hpx:p l[i]
   . simp only[go_sem,hw];refine ih (i+1) _ ⟨by omega,λ j x hj hjx=>?_⟩ (by omega) (BW (by simp[ZF]));rcases AF.1 hj with hj | rfl
     . exact he j x hj hjx
     . rw[hx] at hjx;cases hjx;exact hpx
   . simp only[go_sem];rw[Ib p l i hi he,QB];simp only[Fx,hpx,AP,and_self]
 . simp only[go_sem];have:i=l.length:=by simp at h2;omega
   rw[Ib p l i hi he,this,AZ];simp[Fx]
def rd:Nat->List (List UInt8)->Dc->Dc×Int
 | _,[],d=>(d,0)
 | 0,s::r,d=>if (Kn s).2 then rd 0 r {d with Cb:=d.Cb++[(Kn s).1]} else (IU,7)
 | k+1,s::r,d=>if C3 s then rd k r {d with names:=d.names++[s]} else (IU,6)
def Fh(j:Nat):Fm:=Iy.getD j ⟨[],[],false⟩
def Jy(w:List UInt8):Int:=Fx (λ f:Fm=>decide (f.word=w)) 0 Iy.tail+1
def JJ(num:Int)(fs:List (List UInt8)):Dc×Int:=
 match fs with
 | []=>(IU,20)
 | w::rest=>
   if Jy w=0 then (IU,4)
   else if (rest.length:Int)<(CD (Jy w)).1+(CD (Jy w)).2∨((CD (Jy w)).1+(CD (Jy w)).2<(rest.length:Int)/\Jy w≠2) then (IU,5)
   else rd (rest.length - (CD (Jy w)).2.toNat) rest ⟨Jy w,num,[],[]⟩
theorem Xd{α:Type}(p:α->Bool):∀(l:List α) (k:Nat),Fx p k l=-1∨∃i:Nat,i<l.length/\Fx p k l=((k+i:Nat):Int)
 | [],k=> .inl rfl
 | x::r,k=>by
   simp only[Fx];split
   . exact .inr ⟨0,by simp,rfl⟩
   . rcases Xd p r (k+1) with h | ⟨i,h1,h2⟩
     . exact .inl h
     . exact .inr ⟨i+1,by simp;omega,by rw[h2];omega⟩
theorem Wl(w:List UInt8):∃j:Nat,j<7/\Jy w=(j:Nat):=by
 rcases Xd (λ f:Fm=>decide (f.word=w)) Iy.tail 0 with h | ⟨i,h1,h2⟩
 . exact ⟨0,by omega,by rw[Jy,h];rfl⟩
 . have:Iy.tail.length=6:=rfl;exact ⟨i+1,by omega,by rw[Jy,h2];omega⟩
theorem UK(j:Nat)(h:j<7):((Iy.flatMap fmC).drop (j*3)).take 3=[.str (Fh j).word,.str (Fh j).fields,.bool (Fh j).more]:=by
 rcases j with _ | _ | _ | _ | _ | _ | _ | j
 all_goals first | rfl | omega
theorem UJ(j:Nat)(h:j<7)(h0:1<=j):((Fh j).fields.length:Int)=(CD j).1+(CD j).2/\(∀i:Nat,i<(Fh j).fields.length->((((Fh j).fields.getD i 0).toNat:Int)=35↔(CD j).1<=(i:Int)))/\(Fh j).more=decide ((j:Int)=2)/\0<=(CD j).1/\0<=(CD j).2:=by
 rcases j with _ | _ | _ | _ | _ | _ | _ | j
 . omega
 all_goals first | omega | skip
 all_goals
   refine ⟨by decide,?_,by decide,by decide,by decide⟩;intro i hi;rcases i with _ | _ | _ | _ | i
   all_goals first | decide | (exfalso;simp[Fh,Iy] at hi;done) | (exfalso;simp[Fh,Iy] at hi;omega)
theorem Od:(Iy.flatMap fmC).length=21:=by decide
theorem Al6(num:Int)(fs:List (List UInt8))(hfs:fs.length<=10000000):B2 prog 62 [.agg [.p (.int .i64 num),.p (.sl (CB fs))]] [] λ h r=>h=[]/\r= .Dv [(JJ num fs).1.d,.p (.int .i64 (JJ num fs).2)]:=by
 refine B1 func62 rfl Ann (by simp[Tryz.f62]) ?_;cases fs with
 | nil=>
   simp only[go_sem,B5];refine BX ?_;simp only[go_sem];try simp[JJ,IU,Dc.d,CB,BZ]
 | cons w rest=>
   have Dt:¬((rest.length+1:Nat):Int)=0:=by omega
   simp only[go_sem,B5,Dt];refine Cq l8 ?_;simp only[go_sem,Od];refine Azo (Wk.seal (t:=4) (id:=4) (xs:=Iy.flatMap fmC) (env1:=[(3,.p (.int .i64 0)),(2,.ptr 2 0),(1,.ptr 1 0)]) (hp1:=[(2,.box [.p (.int .i64 0),.p (.int .i64 0),.cl [],.cl []]),(1,.box [.p (.int .i64 num),.p (.sl (CB (w::rest)))])]) rfl rfl rfl
     (by simp[Le,Q8,C8,get,DO,Ey,Fa,D.ids,DB,AO.ids,base])) ?_
   simp only[go_sem];refine Aah (L:=1) rfl At9 Ata rfl rfl (by decide) Od (by decide) ?_;simp only[go_sem];refine Cq (Ag8 Iy.tail (by decide) 107 (λ f=>decide (f.word=w)) _ _ (λ x=>Afl x num w rest)) ?_;obtain ⟨j,hj,hjw⟩:=Wl w;have Yg:IntKind.i64.wrap (Fx (λ f:Fm=>decide (f.word=w)) 0 Iy.tail+1)=(j:Int):=by
     have h1:Fx (λ f:Fm=>decide (f.word=w)) 0 Iy.tail+1=(j:Int):=hjw;rw[h1,B3]<;>omega
   by_cases V2:(j:Int)=0
   . simp only[go_sem,Yg,V2];refine BX ?_;simp only[go_sem];simp[JJ,hjw,V2,IU,Dc.d,CB,BZ]
   have hjp:(0:Int)<=j/\(j:Int)<7:=by omega
   have hfc:=UK j hj;have QA:0+3<=(List.drop (j*3) (Iy.flatMap fmC)).length:=by rw[BM,Od];omega
   have Oa:List.drop 1 (List.take (rest.length+1) (CB (w::rest)))=CB rest:=by
     rw[AA (by simp[CB])];rfl
   have Agd:Ka 1 (CB (w::rest)):=by simp[Ka,CB]
   have Arz:(1:Int)<=((rest.length+1:Nat):Int):=by omega
   simp only[go_sem,Yg,V2];refine Dp [(2,.box [.p (.int .i64 0),.p (.int .i64 0),.cl [],.cl []]),(1,.box [.p (.int .i64 num),.p (.sl (CB (w::rest)))])] mixed (p:=[(0,0),(1,0),(2,0),(3,0),(4,0),(5,0),(6,1),(7,2),(8,0)]) (by kernel_rfl) (by simp[C8,get]) ?_;obtain ⟨Lw,Pm,hs3,hs4,hs5⟩:=UJ j hj (by omega);have h2b:(j:Int)=2->(CD j).2=0:=by intro h;rw[h];rfl
   have Ks:JJ num (w::rest)=if (rest.length:Int)<(CD j).1+(CD j).2∨((CD j).1+(CD j).2<(rest.length:Int)/\(j:Int)≠2) then (IU,5) else rd (rest.length - (CD j).2.toNat) rest ⟨j,num,[],[]⟩:=by
     simp only[JJ,hjw,V2,Bb]
   rw[Ks];generalize hfe:(Fh j).fields=sig at*;generalize hfo:(Fh j).more=more at*;generalize hA:(CD j).1=a at*;generalize hB:(CD j).2=b at*;by_cases hl1:(rest.length:Int)<(sig.length:Int)
   . simp only[go_sem,Ab,hfc,QA,B5,Oa,Agd,hjp,Arz,Bx,hl1];refine BX ?_;simp only[go_sem];rw[if_pos (.inl (by omega))];simp[IU,Dc.d,CB,BZ]
   by_cases Uz:(sig.length:Int)<(rest.length:Int)/\more=false
   . simp only[go_sem,Ab,hfc,QA,B5,Oa,Agd,hjp,Arz,Bx,hl1,Uz];refine BX ?_;simp only[go_sem];rw[if_pos (.inr ⟨by omega,by have:=Uz.2;rw[hs3] at this;simpa using this⟩)];simp[IU,Dc.d,CB,BZ]
   have hl3:(sig.length:Int)<(rest.length:Int)->(j:Int)=2/\more=true:=by
     intro h;cases more
     . exact (Uz ⟨h,rfl⟩).elim
     . exact ⟨by simpa using hs3.symm,rfl⟩
   have hgo:(if (rest.length:Int)<a+b∨(a+b<(rest.length:Int)/\(j:Int)≠2) then (IU,(5:Int)) else rd (rest.length - b.toNat) rest ⟨j,num,[],[]⟩)=rd (rest.length - b.toNat) rest ⟨j,num,[],[]⟩:=by
     rw[if_neg];omega
   rw[hgo];generalize hK:rest.length - b.toNat=K;by_cases hl5:(sig.length:Int)<(rest.length:Int);all_goals
     first
       | simp only[go_sem,Ab,hfc,QA,B5,Oa,Agd,hjp,Arz,Bx,hl1,hl5,(hl3 hl5).2]
       | simp only[go_sem,Ab,hfc,QA,B5,Oa,Agd,hjp,Arz,Bx,hl1,hl5]
     refine B7 (λ q:Nat×List (List UInt8)×List Int=>⟨[(2,.ptr 2 0),(6,.ptr 6 0),(8,.ptr 8 0),(56,.p (.sl (CB rest))),(57,.p (.int .i64 (rest.length:Nat))),(58,.p (.int .i64 (q.1:Nat)))],
         [(2,.box [.p (.int .i64 0),.p (.int .i64 0),.cl [],.cl []]),(6,.box [.p (.str (Fh j).word),.p (.str sig),.p (.bool more)]),
          (8,.box [.p (.int .i64 j),.p (.int .i64 num),.ref 97 0 q.2.1.length q.2.1.length,.ref 87 0 q.2.2.length q.2.2.length]),(97,.arr 9 1 (CB q.2.1)),(87,.arr 3 1 (BZ q.2.2))],101⟩)
       (λ q=>q.1<=rest.length/\q.2.1.length<=q.1/\q.2.2.length<=q.1/\rd (K - q.1) (rest.drop q.1) ⟨j,num,q.2.1,q.2.2⟩=rd K rest ⟨j,num,[],[]⟩)
       (λ q=>rest.length - q.1) (0,[],[]) ⟨AE _,by simp,by simp,by simp⟩ ?_ ?_
     . refine (DC (id:=8) (j:=2) (q:=97) (sz:=1) 9 rfl rfl rfl (by decide)).trans ((DC (id:=8) (j:=3) (q:=87) (sz:=1) 3 rfl rfl rfl (by decide)).trans ?_);first
         | (refine BW ?_;simp[ZF,CB,BZ];done)
         | (refine BW ?_;simp[ZF,CB,BZ,(hl3 hl5).2];done)
     rintro ⟨i,ns,ks⟩ n ⟨hi,Yk,hn2,he⟩ ih;simp only at hi Yk hn2 he;simp only[go_sem];refine Cy (λ h2=>?_) (λ h2=>?_)
     . have Cv:i<rest.length:=by simp at h2;omega
       have hw:=Cd i (by simp at hfs;omega);have UF:rest.drop i=rest.getD i []::rest.drop (i+1):=by rw[AT Cv];simp[List.getD,Cv]
       rw[UF] at he;simp only[An] at hfs;have J7:(i:Int)<(rest.length:Int):=by omega
       have C6:(0:Int)<=(i:Int):=by omega
       generalize hs:rest.getD i []=s at he;have number:K - i=0->(Kn s).2=true->rd (K - (i+1)) (rest.drop (i+1)) ⟨j,num,ns,ks++[(Kn s).1]⟩=rd K rest ⟨j,num,[],[]⟩:=by
         intro h0 h1;rw[<-he,h0];simp only[rd,h1,AP];congr 1;omega
       have Ar7:K - i=0->(Kn s).2=false->rd K rest ⟨j,num,[],[]⟩=(IU,7):=by
         intro h0 h1;rw[<-he,h0];simp only[rd,h1];rfl
       have name:i<K->C3 s=true->rd (K - (i+1)) (rest.drop (i+1)) ⟨j,num,ns++[s],ks⟩=rd K rest ⟨j,num,[],[]⟩:=by
         intro h0 h1;rw[<-he,show K - i=(K - (i+1))+1 by omega];simp only[rd,h1,AP]
       have Atf:i<K->C3 s=false->rd K rest ⟨j,num,[],[]⟩=(IU,6):=by
         intro h0 h1;rw[<-he,show K - i=(K - (i+1))+1 by omega];simp only[rd,h1];rfl
       by_cases hsi:(i:Int)<(sig.length:Int)
       . by_cases Mp:((sig.getD i 0).toNat:Int)=35
         . have hK0:K - i=0:=by have:=(Pm i (by omega)).1 Mp;omega
           simp only[go_sem,Ab,B5,DH rest i Cv,hs,hsi,Mp,J7,C6];refine Cq (Abe _) ?_;cases Tq:(Kn s).2
           . simp only[go_sem,Tq];refine BX ?_;simp only[go_sem];rw[Ar7 hK0 Tq];simp[IU,Dc.d,CB,BZ]
           . simp only[go_sem,Tq,hw,BY];refine ⟨⟨Dy _ _ rfl,by omega⟩,?_⟩;refine ih (i+1,ns,ks++[(Kn s).1]) _ ⟨Cv,by simp only;omega,by simp only[Aq,An,Ax];omega,number hK0 Tq⟩ (by simp only;omega) ?_
             (refine BW ?_;simp[ZF,D0,BY];done)
         . have hK0:i<K:=by have:=(Pm i (by omega)).2;omega
           simp only[go_sem,Ab,B5,DH rest i Cv,hs,hsi,Mp,J7,C6];refine Cq (Qi _) ?_;cases Tq:C3 s
           . simp only[go_sem,Tq];refine BX ?_;simp only[go_sem];rw[Atf hK0 Tq];simp[IU,Dc.d,CB,BZ]
           . simp only[go_sem,Tq,hw,B5];refine ⟨⟨Dy _ _ rfl,by omega⟩,?_⟩;refine ih (i+1,ns++[s],ks) _ ⟨Cv,by simp only[Aq,An,Ax];omega,by simp only;omega,name hK0 Tq⟩ (by simp only;omega) ?_
             (refine BW ?_;simp[ZF,DG,B5];done)
       . have hK0:i<K:=by
           have hl6:(sig.length:Int)<(rest.length:Int):=by omega
           have:=h2b (hl3 hl6).1;omega
         simp only[go_sem,Ab,B5,DH rest i Cv,hs,hsi,J7,C6];refine Cq (Qi _) ?_;cases Tq:C3 s
         . simp only[go_sem,Tq];refine BX ?_;simp only[go_sem];rw[Atf hK0 Tq];simp[IU,Dc.d,CB,BZ]
         . simp only[go_sem,Tq,hw,B5];refine ⟨⟨Dy _ _ rfl,by omega⟩,?_⟩;refine ih (i+1,ns++[s],ks) _ ⟨Cv,by simp only[Aq,An,Ax];omega,by simp only;omega,name hK0 Tq⟩ (by simp only;omega) ?_
           (refine BW ?_;simp[ZF,DG,B5];done)
     . simp only[go_sem];have UA:i=rest.length:=by simp at h2;omega
       subst UA;refine BX ?_;simp only[go_sem];rw[AZ] at he;simp only[rd] at he;rw[<-he];(try rw[FX _ _ (Ai _)]);(try rw[GD _ _ (Ai _)]);simp[Dc.d,B5,BY]
def Dh(d:Dc):Bool:=
 decide (1<=d.word/\d.word<=6)&&(decide ((d.Cb.length:Int)=(CD d.word).2)&&((decide ((d.names.length:Int)=(CD d.word).1)||(decide ((CD d.word).1<(d.names.length:Int))&&decide (d.word=2)))&&
   (d.names.all C3&&d.Cb.all λ n=>!(decide (n< -9999)||decide (9999<n)))))
theorem QL{α:Type}(p:α->Bool):∀(l:List α) (k:Nat),0<=Fx p k l↔l.any p=true
 | [],k=>by simp[Fx]
 | x::r,k=>by
   simp only[Fx,List.any_cons];by_cases h:p x=true
   . rw[if_pos h];simp[h]
   . rw[if_neg h,QL p r (k+1)];simp[h]
theorem Agu{α:Type}(p:α->Bool)(l:List α)(k:Nat):decide (0<=Fx p k l)=l.any p:=by
 rw[Bm,Au,QL]
theorem Ace(j:Nat)(h:j<7):∀b∈(Fh j).fields,b.toNat<128:=by
 rcases j with _ | _ | _ | _ | _ | _ | _ | j
 all_goals first | decide | omega
theorem Ajp(d:Dc)(hd:d.names.length<=10000000/\d.Cb.length<=10000000):B2 prog 91 [d.d] [] λ h r=>h=[]/\r= .p (.bool (Dh d)):=by
 obtain ⟨word,line,names,Cb⟩:=d;simp only at hd;refine B1 func91 rfl An2 (by simp[Tryz.f91]) ?_;by_cases h1:word<1
 . have hv:Dh ⟨word,line,names,Cb⟩=false:=by simp[Dh];intro h;omega
   simp only[go_sem,Dc.d,h1,hv]
 by_cases h2:6<word
 . have hv:Dh ⟨word,line,names,Cb⟩=false:=by simp[Dh];intro h;omega
   simp only[go_sem,Dc.d,h1,h2,hv]
 obtain ⟨j,rfl⟩:∃j:Nat,word=(j:Int):=⟨word.toNat,by omega⟩;have hj:j<7:=by omega
 have hfc:=UK j hj;have QA:j*3+3<=(Iy.flatMap fmC).length:=by rw[Od];omega
 obtain ⟨Lw,Pm,hs3,hs4,hs5⟩:=UJ j hj (by omega);have Bca:=Ace j hj;have hsl:(Fh j).fields.length<=4:=by
   rcases j with _ | _ | _ | _ | _ | _ | _ | j
   all_goals first | decide | omega
 have V2:(0:Int)<=(j:Int)/\(j:Int)<7:=by omega
 have hdt:List.take 3 (List.drop (j*3) (List.map D.p (Iy.flatMap fmC)))=[.p (.str (Fh j).word),.p (.str (Fh j).fields),.p (.bool (Fh j).more)]:=by
   rw[<-List.map_drop,<-BN,hfc];rfl
 simp only[go_sem,Dc.d,h1,h2];refine CG mixed (p:=[(1,0),(2,0),(4,1),(0,2),(3,0),(5,2),(6,0),(7,0)]) (by kernel_rfl) (by simp[C8,get]) ?_;simp only[go_sem];refine Gq l8 ?_;have hv:Dh ⟨j,line,names,Cb⟩=(decide ((Cb.length:Int)=(CD j).2)&&((decide ((names.length:Int)=(CD j).1)||(decide ((CD j).1<(names.length:Int))&&decide ((j:Int)=2)))&&
   (names.all C3&&Cb.all λ n=>!(decide (n< -9999)||decide (9999<n))))):=by
   have:decide ((1:Int)<=j/\(j:Int)<=6)=true:=by simp;omega
   simp only[Dh,this,A7]
 rw[hv,<-hs3];clear hv hs3;generalize hfe:(Fh j).fields=sig at*;generalize hfo:(Fh j).more=more at*;generalize hA:(CD j).1=a at*;generalize hB:(CD j).2=b at*;simp only[go_sem,Ab,QA,hdt,V2];refine Aqc rfl rfl ti9 rfl rfl ?_;simp only[go_sem];refine B7 (λ i=>⟨[(1,.ptr 1 0),(3,.ptr 3 0),(22,.ptr 22 0),(4,.p (.int .i64 (min i a.toNat:Nat))),(5,.p (.int .i64 (i - a.toNat:Nat)))],
     [(1,.box [.p (.int .i64 j),.p (.int .i64 line),.p (.sl (CB names)),.p (.sl (BZ Cb))]),(3,.box [.p (.str (Fh j).word),.p (.str sig),.p (.bool more)]),(22,.iter sig i)],67⟩)
   (λ i=>i<=sig.length) (λ i=>sig.length - i) 0 (AE _) (BW (by simp[ZF,Nat.zero_min,Nat.zero_sub])) ?_
 rintro i n hi ih;simp only[go_sem];refine At3 rfl rfl rfl Bca (λ Cv=>?_) (λ hge=>?_)
 . have Mp:=Pm i Cv;have IG:sig.getD i 0=sig[i]:=by simp[List.getD,Cv]
   rw[IG] at Mp;simp only[go_sem];by_cases hc:(sig[i].toNat:Int)=35
   . have hai:=Mp.1 hc;have hw:IntKind.i64.wrap (((i - a.toNat:Nat):Int)+1)=((i+1 - a.toNat:Nat):Int):=by rw[B3]<;>omega
     simp only[go_sem,hc,hw];refine ih (i+1) _ Cv (by omega) ?_;have e1:min (i+1) a.toNat=min i a.toNat:=by omega
     rw[e1]
     (refine BW ?_;simp[ZF];done)
   . have hai:¬a<=(i:Int):=λ h=>hc (Mp.2 h);have hw:IntKind.i64.wrap (((min i a.toNat:Nat):Int)+1)=((min (i+1) a.toNat:Nat):Int):=by rw[B3]<;>omega
     simp only[go_sem,hc,hw];refine ih (i+1) _ Cv (by omega) ?_;have e1:i+1 - a.toNat=i - a.toNat:=by omega
     rw[e1]
     (refine BW ?_;simp[ZF];done)
 . have J7:i=sig.length:=by omega
   have e4:((min i a.toNat:Nat):Int)=a:=by omega
   have e5:((i - a.toNat:Nat):Int)=b:=by omega
   simp only[go_sem,BY,B5,e4,e5];clear ih;have k1:=YB names (by omega) 126 (λ x=>!C3 x) Aej;have k2:=YC Cb (by omega) 128 (λ n=>decide (n< -9999)||decide (9999<n)) Aei;rw[Agu] at k1 k2;cases c1:decide ((Cb.length:Int)=b)
   . simp only[go_sem,c1];try simp
   cases c2:decide ((names.length:Int)=a)
   . cases c3:decide (a<(names.length:Int))
     . simp only[go_sem,c1,BY,B5,e4,e5,c2,c3];try simp
     cases more
     . simp only[go_sem,c1,BY,B5,e4,e5,c2,c3];try simp
     simp only[go_sem,c1,BY,B5,e4,e5,c2,c3];refine Cq k1 ?_;cases c4:names.any λ x=>!C3 x
     . have c4':names.all C3=true:=by
         rw[List.all_eq_not_any_not,c4];rfl
       simp only[go_sem,c4];refine Cq k2 ?_;simp only[go_sem];rw[c4',List.all_eq_not_any_not];try simp
     . have c4':names.all C3=false:=by
         rw[List.all_eq_not_any_not,c4];rfl
       simp only[go_sem,c4];rw[c4'];try simp
   . simp only[go_sem,c1,BY,B5,e4,e5,c2];refine Cq k1 ?_;cases c4:names.any λ x=>!C3 x
     . have c4':names.all C3=true:=by
         rw[List.all_eq_not_any_not,c4];rfl
       simp only[go_sem,c4];refine Cq k2 ?_;simp only[go_sem];rw[c4',List.all_eq_not_any_not];try simp
     . have c4':names.all C3=false:=by
         rw[List.all_eq_not_any_not,c4];rfl
       simp only[go_sem,c4];rw[c4'];try simp
def CM.Eh:CM->List (List UInt8)->Int×CM
 | b,x::y::r=>if (b.Fw x y).1=0 then CM.Eh (b.Fw x y).2 (y::r) else b.Fw x y
 | b,_=>(0,b)
def CM.ED(b:CM)(d:Dc):Int×CM:=
 if Dh d=false then (20,b) else if decide (d.word=1)=true then b.E5 d else if decide (d.word=2)=true then b.Eh d.names else
   if decide (d.word=5)=true then b.DM d else if decide (d.word=6)=true then b.D3 d else b.EO d
structure BI(b:CM):Prop where
 nb:b.bl.length<=24
 nn:b.nx.length=b.bl.length
 mb:∀x i,Es b.mb x=some i->∃n:Nat,i=(n:Int)/\n<b.bl.length
 ms:∀x i,Es b.ms x=some i->∃n:Nat,i=(n:Int)/\n<b.sp.length
 row:∀i,(b.nx.getD i []).length<=4
 ns:b.sp.length<=6
 nba:b.ba.length=b.sp.length
 sl:0<=b.sl/\b.sl<=4*b.sp.length
 np:b.pl.length<=8
 bas:∀x∈b.ba,0<=x/\x<=24
 sps:∀s∈b.sp,1<=s.Cs/\s.Cs<=4
 pls:∀p∈b.pl,(∃n:Nat,p.1=(n:Int)/\n<b.sp.length)/\1<=p.2/\p.2<=4
theorem Oc(p:List UInt8×Int)(r:List (List UInt8×Int))(x:List UInt8):Es (p::r) x=if p.1=x then some p.2 else Es r x:=by
 unfold Es;rw[List.find?_cons];by_cases h:p.1=x
 . simp[h]
 . rw[if_neg h,beq_eq_false_iff_ne.2 h]
theorem Afe(p:List UInt8×Int)(r:List (List UInt8×Int))(k:List UInt8)(v:Int):IJ (p::r) k v=if p.1=k then (k,v)::r else p::IJ r k v:=rfl
theorem Ob(m:List (List UInt8×Int))(k:List UInt8)(v:Int)(x:List UInt8):Es (IJ m k v) x=if x=k then some v else Es m x:=by
 induction m with
 | nil=>
   have:IJ [] k v=[(k,v)]:=rfl;rw[this,Oc];by_cases h:x=k
   . rw[if_pos h,if_pos h.symm]
   . rw[if_neg h,if_neg (Bc h)]
 | cons p r ih=>
   rw[Afe,Oc];by_cases h:p.1=k
   . rw[if_pos h,Oc];by_cases h2:x=k
     . rw[if_pos h2,if_pos h2.symm]
     . rw[if_neg h2,if_neg (Bc h2),if_neg (λ e=>h2 (by rw[<-e,<-h]))]
   . rw[if_neg h,Oc,ih];by_cases h2:p.1=x
     . rw[if_pos h2,if_pos h2,if_neg (λ e=>h (by rw[h2,e]))]
     . rw[if_neg h2,if_neg h2]
theorem BI.block{b:CM}(h:BI b)(d:Dc):BI (b.E5 d).2:=by
 unfold CM.E5;split
 . exact h
 . split
   . exact h
   . rename_i h1 h2;have hl:b.bl.length<24:=by have:=h.nb;omega
     refine ⟨by simp;omega,by simp[h.nn],λ x i hx=>?_,h.ms,λ i=>?_,h.ns,h.nba,h.sl,h.np,h.bas,h.sps,h.pls⟩
     . simp only[Ob] at hx;split at hx
       . cases hx;exact ⟨_,rfl,by simp⟩
       . obtain ⟨n,h3,h4⟩:=h.mb x i hx;exact ⟨n,h3,by simp;omega⟩
     . simp only[List.getD,AL];split
       . have:=h.row i;simpa [List.getD] using this
       . rcases hj:i - b.nx.length with _ | j<;>simp
theorem BI.lane{b:CM}(h:BI b)(x y:List UInt8):BI (b.Fw x y).2:=by
 unfold CM.Fw;split
 . rename_i i j h1 h2;split
   . exact h
   . split
     . exact h
     . split
       . exact h
       . rename_i h3 h4 h5;obtain ⟨n,rfl,hn⟩:=h.mb x i h1;refine ⟨h.nb,by simp[h.nn],h.mb,h.ms,λ k=>?_,h.ns,h.nba,h.sl,h.np,h.bas,h.sps,h.pls⟩;simp only[Ab] at h5 ⊢;have hr:=h.row n;have hrk:=h.row k;simp only[List.getD,BR];split
         . rename_i e;subst e;split
           . simp only[A5,Aq,An,Ax];simp only[List.getD] at h5 hr;omega
           . simp
         . simpa [List.getD] using hrk
 . exact h
theorem BI.ZX:∀{l:List (List UInt8)} {b:CM},BI b->BI (b.Eh l).2
 | [],b,h=>h
 | [x],b,h=>h
 | x::y::r,b,h=>by
   simp only[CM.Eh];split
   . exact BI.ZX (h.lane x y)
   . exact h.lane x y
theorem BI.Auh{b:CM}(h:BI b)(d:Dc):BI (b.EO d).2:=by
 unfold CM.EO;split
 . exact h
 . split
   . split
     . exact h
     . split
       . exact h
       . split
         . exact h
         . rename_i h1 h2 h3;simp only[Au] at h1 h2;have h4:=h.ns;have h5:=h.sl;refine ⟨h.nb,h.nn,h.mb,λ x i hx=>?_,h.row,by simp;omega,by simp[h.nba],by simp only[Aq,An,Ax];omega,h.np,λ x hx=>?_,λ s hs=>?_,λ p hp=>?_⟩;simp only[Ob] at hx;split at hx
           . cases hx;exact ⟨_,rfl,by simp⟩
           . obtain ⟨n,h6,h7⟩:=h.ms x i hx;exact ⟨n,h6,by simp;omega⟩
           . rcases Aw.1 hx with hx | hx
             . exact h.bas x hx
             . simp only[Ay] at hx;subst hx;omega
           . rcases Aw.1 hs with hs | hs
             . exact h.sps s hs
             . simp only[Ay] at hs;subst hs;simp only;omega
           . obtain ⟨⟨n,h6,h7⟩,h8⟩:=h.pls p hp;exact ⟨⟨n,h6,by simp;omega⟩,h8⟩
   . exact h
theorem BI.Akh{b:CM}(h:BI b)(d:Dc):BI (b.DM d).2:=by
 unfold CM.DM;split
 . exact h
 . rename_i i hi;split
   . exact h
   split
   . exact h
   split
   . exact h
   split
   . exact h
   split
   . exact h
   rename_i h1 h2 h3 h4 h5;obtain ⟨n,rfl,hn⟩:=h.ms _ _ hi;simp only[Au,Ab] at h2 h3;have hs:=h.sps (b.sp.getD n Cu) (CF b.sp n Cu hn);refine ⟨h.nb,h.nn,h.mb,h.ms,h.row,h.ns,h.nba,h.sl,?_,h.bas,h.sps,λ p hp=>?_⟩
   . have:=h.np;simp;omega
   . rcases Aw.1 hp with hp | hp
     . exact h.pls p hp
     . simp only[Ay] at hp;subst hp;exact ⟨⟨n,rfl,hn⟩,by omega,by omega⟩
theorem BI.config{b:CM}(h:BI b)(d:Dc):BI (b.D3 d).2:=by
 unfold CM.D3
 repeat' split
 all_goals first | exact h | skip
 exact ⟨h.nb,h.nn,h.mb,h.ms,h.row,h.ns,h.nba,h.sl,h.np,h.bas,h.sps,h.pls⟩
theorem BI.add{b:CM}(h:BI b)(d:Dc):BI (b.ED d).2:=by
 unfold CM.ED
 repeat' split
 . exact h
 . exact h.block d
 . exact h.ZX
 . exact h.Akh d
 . exact h.config d
 . exact h.Auh d
theorem MH{d:Dc}(h:Dh d=true):(1<=d.word/\d.word<=6)/\(d.Cb.length:Int)=(CD d.word).2/\(CD d.word).1<=(d.names.length:Int):=by
 simp only[Dh,As,Au,Bool.or_eq_true] at h;obtain ⟨h1,h2,h3,_⟩:=h;exact ⟨h1,h2,by omega⟩
theorem Avz(b:CM)(k:Nat)(d:Dc)(h:BI b)(hd:d.names.length<=10000000/\d.Cb.length<=10000000):
   B2 prog 63 [.ptr 1000000 0,d.d] (b.h k) λ h r=>∃k',h=(b.ED d).2.h k'/\r= .p (.int .i64 (b.ED d).1):=by
 have v:=Ajp d hd;have v1:=λ h1 h2=>Apm b k d h1 h2 h.nb (by rw[h.nn];exact h.nb);have v5:=λ h1 h2=>Akg b k d h1 h2 h.np h.ms;have v6:=Aiq b k d;have v3:=λ h1 h2=>Aqo b k d h1 h2 h.ns (by rw[h.nba];exact h.ns) ⟨h.sl.1,by have:=h.sl.2;have:=h.ns;omega⟩;have hs:=@MH d;unfold Dc.d at v v1 v5 v6 v3 ⊢;refine B1 func63 rfl Anm (by simp[Tryz.f63]) ?_;rw[CV b k];simp only[go_sem];refine Cq v ?_;cases c0:Dh d
 . have hv:b.ED d=(20,b):=by unfold CM.ED;rw[if_pos c0]
   simp only[go_sem,c0,hv];first | exact ⟨k,rfl,rfl⟩ | exact ⟨k,rfl⟩
 have hs:=hs c0;cases c1:decide (d.word=1);rotate_left
 . have e1:d.word=1:=Ad c1;rw[e1] at hs;simp[CD] at hs;simp only[go_sem,c0,c1];refine Em (v1 (by omega) (by omega)) ?_;rintro h' r ⟨k',rfl,rfl⟩;have hv:b.ED d=b.E5 d:=by unfold CM.ED;simp only[c0,c1,BJ,Bb,AP]
   rw[hv];simp only[go_sem,CV (b.E5 d).2 k'];first | exact ⟨k',rfl,rfl⟩ | exact ⟨k',rfl⟩
 cases c2:decide (d.word=2);rotate_left
 . have hv:b.ED d=b.Eh d.names:=by unfold CM.ED;simp only[c0,c1,c2,BJ,AM,Bb,AP]
   rw[hv];have e1:d.word=2:=Ad c2;rw[e1] at hs;simp[CD] at hs;simp only[go_sem,c0,c1,c2];refine B7 (λ q:Nat×CM×Nat=>⟨[(0,.ptr 1000000 0),(3,.ptr 3 0),(4,.p (.int .i64 0)),(5,.p (.int .i64 (q.1:Nat)))],(3,.box [.p (.int .i64 d.word),.p (.int .i64 d.line),.p (.sl (CB d.names)),.p (.sl (BZ d.Cb))])::q.2.1.h q.2.2,55⟩)
     (λ q=>1<=q.1/\q.1<=d.names.length/\BI q.2.1/\b.Eh d.names=q.2.1.Eh (d.names.drop (q.1 - 1))) (λ q=>d.names.length - q.1) (1,b,k) ⟨Ai _,by omega,h,by simp⟩ (BW (by simp[ZF,CV])) ?_
   rintro ⟨i,b',k'⟩ n ⟨Ii,hi,hB,he⟩ ih;dsimp only at Ii hi hB he;simp only[go_sem,CV b' k',B5];refine Cy (λ h2=>?_) (λ h2=>?_)
   . have Cv:i<d.names.length:=by simp at h2;omega
     have hw:=Cd i (by omega);have hp:IntKind.i64.wrap ((i:Int) - 1)=((i - 1:Nat):Int):=by rw[IntKind.wrap_i64];omega
     have g1:=DH d.names (i - 1) (by omega);have g2:=DH d.names i Cv;have r1:(0:Int)<=((i - 1:Nat):Int)/\((i - 1:Nat):Int)<(d.names.length:Int):=by omega
     have r2:(0:Int)<=(i:Int)/\(i:Int)<(d.names.length:Int):=by omega
     have Oa:d.names.drop (i - 1)=d.names.getD (i - 1) []::d.names.getD i []::d.names.drop (i+1):=by
       have a1:d.names.drop (i - 1)=d.names[i - 1]::d.names.drop (i - 1+1):=AT (by omega);have a2:d.names.drop i=d.names[i]::d.names.drop (i+1):=AT Cv;rw[a1,show i - 1+1=i by omega,a2];simp[List.getD,Cv,show i - 1<d.names.length by omega]
     have Bc5:d.names.drop i=d.names.getD i []::d.names.drop (i+1):=by
       rw[AT Cv];simp[List.getD,Cv]
     rw[Oa] at he;simp only[go_sem,CV b' k',B5];refine Dp [(3,.box [.p (.int .i64 d.word),.p (.int .i64 d.line),.p (.sl (CB d.names)),.p (.sl (BZ d.Cb))])] mixed (p:=[(0,0),(1,0),(2,0),(3,0),(4,0),(5,0),(6,0),(7,0),(8,0),(9,0),(10,0),(11,0),(12,2),(13,0)]) (by kernel_rfl) (by simp[C8,get]) ?_;simp only[go_sem,CV b' k',B5,hp,r1,r2,Ab,g1,g2];refine Aq7 (Ari b' k' (d.names.getD (i - 1) []) (d.names.getD i []) (by rw[hB.nn];exact hB.mb) (λ i=>by have:=hB.row i;omega)) ?_;rintro h' r ⟨k2,rfl,rfl⟩;have hBl:=hB.lane (d.names.getD (i - 1) []) (d.names.getD i []);generalize hL:b'.Fw (d.names.getD (i - 1) []) (d.names.getD i [])=L at*;obtain ⟨e,b2⟩:=L;simp only at hBl;simp only[CM.Eh,hL] at he;cases c3:decide (e=0)
     . have c3':¬e=0:=Ae c3;rw[if_neg c3'] at he;rw[he];simp only[go_sem,CV b2 k2,c3];first | exact ⟨k2,rfl,rfl⟩ | exact ⟨k2,rfl⟩
     . have c3':e=0:=Ad c3;rw[if_pos c3'] at he;simp only[go_sem,CV b2 k2,c3,hw];refine ih (i+1,b2,k2) _ ⟨by omega,Cv,hBl,?_⟩ (by simp;omega) ?_
       . simp only[Nat.add_sub_cancel];rw[Bc5];exact he
       . (refine BW ?_;simp[ZF,CV];done)
   . have:i=d.names.length:=by simp at h2;omega
     simp only[go_sem,CV b' k'];have I4:d.names.drop (i - 1)=[d.names.getD (i - 1) []]:=by
       rw[AT (by omega),BB (by omega)];simp[List.getD,show i - 1<d.names.length by omega]
     rw[I4] at he;rw[he];first | exact ⟨k',rfl,rfl⟩ | exact ⟨k',rfl⟩
 cases c5:decide (d.word=5);rotate_left
 . have e1:d.word=5:=Ad c5;rw[e1] at hs;simp[CD] at hs;simp only[go_sem,c0,c1,c2,c5];refine Em (v5 (by omega) (by omega)) ?_;rintro h' r ⟨k',rfl,rfl⟩;have hv:b.ED d=b.DM d:=by unfold CM.ED;simp only[c0,c1,c2,c5,BJ,AM,Bb,AP]
   rw[hv];simp only[go_sem,CV (b.DM d).2 k'];first | exact ⟨k',rfl,rfl⟩ | exact ⟨k',rfl⟩
 cases c6:decide (d.word=6);rotate_left
 . have e1:d.word=6:=Ad c6;rw[e1] at hs;simp[CD] at hs;simp only[go_sem,c0,c1,c2,c5,c6];refine Em (v6 (by omega)) ?_;rintro h' r ⟨k',rfl,rfl⟩;have hv:b.ED d=b.D3 d:=by unfold CM.ED;simp only[c0,c1,c2,c5,c6,BJ,AM,Bb,AP]
   rw[hv];simp only[go_sem,CV (b.D3 d).2 k'];first | exact ⟨k',rfl,rfl⟩ | exact ⟨k',rfl⟩
 . have n1:¬d.word=1:=Ae c1;have n2:¬d.word=2:=Ae c2;have n5:¬d.word=5:=Ae c5;have n6:¬d.word=6:=Ae c6;have e1:d.word=3∨d.word=4:=by omega
   simp only[CD,n1,n2,e1,Bb,AP] at hs;simp only[go_sem,c0,c1,c2,c5,c6];refine Em (v3 (by omega) (by omega)) ?_;rintro h' r ⟨k',rfl,rfl⟩;have hv:b.ED d=b.EO d:=by unfold CM.ED;simp only[c0,c1,c2,c5,c6,BJ,AM,Bb,AP]
   rw[hv];simp only[go_sem,CV (b.EO d).2 k'];first | exact ⟨k',rfl,rfl⟩ | exact ⟨k',rfl⟩
def parseV:List Ln->List Dc->List Dc×Int×Int
 | [],acc=>(acc,0,0)
 | x::r,acc=>if (JJ x.num x.fs).2=0 then parseV r (acc++[(JJ x.num x.fs).1]) else ([],x.num,(JJ x.num x.fs).2)
def Rv(r:List Dc×Int×Int):D:= .Dv [.p (.sl (DX r.1)),.p (.int .i64 r.2.1),.p (.int .i64 r.2.2)]
theorem Afk(l:List Ln)(hl:l.length<=10000000)(hf:∀x∈l,x.fs.length<=10000000):B2 prog 30 [.p (.sl (EG l))] [] λ h r=>h=[]/\r=Rv (parseV l []):=by
 refine B1 func30 rfl Ao9 (by simp[Tryz.f30]) ?_;simp only[go_sem,CQ];refine B7 (λ q:Nat×List Dc=>⟨[(10,.p (.sl (EG l))),(11,.p (.int .i64 (l.length:Nat))),(12,.p (.int .i64 (q.1:Nat))),(5,.ref 29 0 q.2.length q.2.length)],[(29,.arr 82 4 (DX q.2))],32⟩)
   (λ q=>q.1<=l.length/\q.2.length<=q.1/\parseV (l.drop q.1) q.2=parseV l []) (λ q=>l.length - q.1) (0,[]) ⟨AE _,by simp,by simp⟩ ((Wk.nil (t:=5) (q:=29) (sz:=4) 82 rfl rfl (by decide)).trans (BW (by simp[ZF,DX]))) ?_
 rintro ⟨i,acc⟩ n ⟨hi,hn,he⟩ ih;simp only at hi hn he;simp only[go_sem];refine Cy (λ h2=>?_) (λ h2=>?_)
 . have Cv:i<l.length:=by simp at h2;omega
   have hw:=Cd i (by omega);have hb:=hf _ (CF l i ZT Cv);rw[Df l i ZT Cv] at he;simp only[go_sem,Ab,CQ,NC l i Cv];generalize l.getD i ZT=x at*;refine ⟨by omega,Em (Al6 x.num x.fs hb) ?_⟩;rintro h' r ⟨rfl,rfl⟩;by_cases hz:(JJ x.num x.fs).2=0
   . simp only[go_sem,Dc.d,hz,hw,CS];refine ⟨⟨Dy _ _ rfl,by omega⟩,?_⟩;refine ih (i+1,acc++[(JJ x.num x.fs).1]) _ ⟨Cv,by simp only[Aq,An,Ax];omega,by rw[<-he];simp only[parseV,hz,AP]⟩ (by simp only;omega) ?_
     (refine BW ?_;simp[ZF,FY,CS];done)
   . simp only[go_sem,Dc.d,hz];refine CG mixed (p:=[(0,0),(1,0),(2,0),(3,0),(4,0),(5,0)]) (by kernel_rfl) (by simp[C8,get]) ?_;simp only[go_sem];refine BX ?_;simp only[go_sem];rw[<-he];simp[parseV,hz,Rv,DX]
 . simp only[go_sem];have UA:i=l.length:=by simp at h2;omega
   subst UA;refine BX ?_;simp only[go_sem];rw[AZ] at he;rw[<-he];simp[parseV,Rv,CS,Xq]
def Gt(x:Dc):List (List UInt8):=(Fh x.word.toNat).word::x.names++x.Cb.map Wb
theorem H0(x:Dc):Dh x=true↔(1<=x.word/\x.word<=6)/\(x.Cb.length:Int)=(CD x.word).2/\((x.names.length:Int)=(CD x.word).1∨((CD x.word).1<(x.names.length:Int)/\x.word=2))/\
   (∀s∈x.names,C3 s=true)/\∀n∈x.Cb,-9999<=n/\n<=9999:=by
 unfold Dh;simp only[As,Bool.or_eq_true,Au,AB,Bool.not_eq_true',Bool.or_eq_false_iff,Bn,Int.not_lt]
def QJ:List Dc->List Ln->List Ln×Int
 | [],acc=>(acc,0)
 | x::r,acc=>if Dh x then QJ r (acc++[⟨x.line,Gt x⟩]) else ([],20)
theorem n7:∀(d:List Dc) (acc:List Ln),(∀x∈d,Dh x=true)->QJ d acc=(acc++d.map λ x=>⟨x.line,Gt x⟩,0)
 | [],acc,_=>by simp[QJ]
 | x::r,acc,h=>by
   simp only[QJ,h x (by simp),AP];rw[n7 r _ (λ y hy=>h y (by simp[hy]))];simp
def Aqp(d:List Dc):Prop:=d.length<=2000000/\∀x∈d,x.names.length<=2000000/\x.Cb.length<=2000000
theorem UM(k:Nat):∀(d:List Dc) (acc:List Ln),(∀x∈d,x.names.length<=k/\x.Cb.length<=k)->(∀x∈acc,x.fs.length<=1+2*k)->(QJ d acc).1.length<=acc.length+d.length/\∀x∈(QJ d acc).1,x.fs.length<=1+2*k
 | [],acc,_,h=>by simpa [QJ] using h
 | x::r,acc,hd,h=>by
   simp only[QJ];split
   . have hx:=hd x (by simp);have ih:=UM k r (acc++[⟨x.line,Gt x⟩]) (λ y hy=>hd y (by simp[hy])) (λ y hy=>by
       rcases Aw.1 hy with h1 | h1
       . exact h y h1
       . simp only[Ay] at h1;subst h1;simp[Gt];omega)
     simp only[Aq,An,Ax] at ih ⊢;exact ⟨by omega,ih.2⟩
   . simp
theorem ZM:∀(i:Nat) (l:List Dc) (x:Dc),x∈Ht i l->∃y∈l,x.names=y.names/\x.Cb=y.Cb
 | _,[],x,h=>by simp[Ht] at h
 | i,y::r,x,h=>by
   simp only[Ht,AG] at h;rcases h with rfl | h
   . exact ⟨y,by simp,rfl,rfl⟩
   . obtain ⟨z,hz,h1⟩:=ZM (i+1) r x h;exact ⟨z,by simp[hz],h1⟩
theorem s9(n:Nt)(hn:validN n):Aqp (D2 n):=by
 obtain ⟨⟨SD,Ac8,OA,K9⟩,hs6,hnm,hr8,hcf,H8,Y1,hdp⟩:=hn;have Uz:(I6 n n.blocks.length).length<=n.blocks.length*4:=by
   have:=Iz (ZY n) 4 (List.range n.blocks.length) (λ i hi=>by
     have:=(K9 i (List.mem_range.1 hi)).2.1;simp only[ZY,Ba];omega)
   simpa [I6] using this
 have hl4:(Lr n n.B6.length).length<=n.B6.length*6:=by
   have:=Iz (λ r=>SY n r n.spurs.length) 6 (n.B6.take n.B6.length) (λ r _=>by
     simp only[SY,Ba];exact Bp (List.length_filter_le _ _) (by simp;omega))
   simpa [Lr] using this
 have Fe:∀x∈Gy n,x.names.length<=3/\x.Cb.length<=4:=by
   intro x hx;simp only[Gy,Aw,Ay] at hx;rcases hx with (((hx | hx) | hx) | hx) | rfl
   . obtain ⟨b,_,rfl⟩:=AU.1 hx;simp[Te]
   . obtain ⟨i,_,hx⟩:=BU.1 hx;obtain ⟨y,_,rfl⟩:=AU.1 hx;simp[RD]
   . obtain ⟨b,_,rfl⟩:=AU.1 hx;simp[P5]
   . obtain ⟨r,_,hx⟩:=BU.1 hx;obtain ⟨y,_,rfl⟩:=AU.1 hx;simp[SZ]
   . simp
 refine ⟨?_,λ x hx=>?_⟩
 . have:(Gy n).length<=2000000:=by
     simp only[Gy,Aq,Ls,OU,Ba,An,Ax];omega
   simpa [D2,GW] using this
 . obtain ⟨y,hy,h1,h2⟩:=ZM 0 _ x hx;have:=Fe y hy;rw[h1,h2];omega
theorem Abd(s:List UInt8):B2 prog 74 [.p (.str s)] [] λ h r=>h=[]/\r= .Dv [.p (.int .i64 (Kn s).1),.p (.bool (Kn s).2)]:=by
 refine B1 func74 rfl Ane (by simp[Tryz.f74]) ?_;cases s with
 | nil=>
   simp only[go_sem];refine Cp ?_;simp only[go_sem];try simp[Kn,My,numOf]
 | cons c r=>
 by_cases hc:(c.toNat:Int)=45
 . have Oa:List.drop 1 (List.take ((r.length+1:Nat):Int).toNat (c::r))=r:=by
     rw[Ab,show r.length+1=(c::r).length from rfl,Ar];rfl
   have hk:Kn (c::r)=numOf true r:=by
     have:c=45:=UInt8.toNat_inj.1 (by simp;omega);subst this;simp[Kn,My]
   rw[hk];simp only[go_sem,hc,AX];refine ⟨by omega,by omega,?_⟩;simp only[go_sem,Oa];cases r with
   | nil=>
     simp only[go_sem];refine Cp ?_;simp only[go_sem];try simp[numOf]
   | cons b l=>
     by_cases hL:(4:Int)<((l.length+1:Nat):Int)
     . simp only[go_sem,hL];refine Cp ?_;simp only[go_sem];have:4<l.length+1:=by omega
       try simp[numOf,this]
     . have hL':¬4<l.length+1:=by omega
       have hlen:(b::l).length<=4:=by simp only[An];omega
       have bad:∀c:Int,(∃i,i<(b::l).length/\(((b::l).getD i 0).toNat:Int)=c)->OF c=false->OT (b::l)=false:=by
         rintro c ⟨i,hi,hc⟩ hf;rw[Bool.eq_false_iff];intro ht;have:=AB.1 ht ((b::l).getD i 0) (by simp only[List.getD,Az hi,A5];exact AN hi);simp only[hc,hf] at this;cases this
       by_cases V8:(b.toNat:Int)=48
       . have Kd:numOf true (b::l)=(0,false):=by simp only[numOf,V8,true_or,and_self,or_true,AP]
         by_cases h1:(1:Int)<((l.length+1:Nat):Int);all_goals
           simp only[go_sem,hL,Oa,AX,V8,h1];refine ⟨by omega,Cp ?_⟩;simp only[go_sem,Kd]
       . have Kd:numOf true (b::l)=if OT (b::l) then (if true then 0 - Ee (b::l) else Ee (b::l),true) else (0,false):=by
           simp only[numOf,hL',V8,false_and,or_self,Bb]
         . have Qv:=Kd;simp only[go_sem,hL,Oa,AX,V8];refine ⟨by omega,?_⟩;(try simp only[go_sem]);refine B7 (λ i=>⟨[(0,.p (.str (b::l))),(6,.p (.int .i64 (i:Nat))),(5,.p (.int .i64 (Ee ((b::l).take i)))),(4,.p (.bool true))],[],65⟩) (λ i=>i<=l.length+1/\0<=Ee ((b::l).take i)/\Ee ((b::l).take i)<10 ^ i/\∀j,j<i->OF ((b::l).getD j 0).toNat=true) (λ i=>l.length+1 - i) 0 ⟨AE _,by simp[Ee],by simp[Ee],by simp⟩
             (BW (by first | (simp[Le,Q8,C8,get,DO,Ey,Fa,D.ids,Ee];done) | simp[Le,Q8,C8,get,DO,Ey,Fa,D.ids,Ee,hng])) ?_
           rintro i n ⟨hi,Q5,hv1,he⟩ ih;simp only[go_sem];refine Cy (λ h2=>?_) (λ h2=>?_)
           . have Cv:i<(b::l).length:=by simp at h2 ⊢;omega
             simp only[go_sem];have hw:=Cd i (by omega);have SA:=Re (b::l) i Cv;generalize SB:(((b::l).getD i 0).toNat:Int)=c at SA;have hle:i+1<=l.length+1:=by simp only[An] at Cv;omega
             have hp:(10:Int) ^ i<=10000:=p10 i (by omega);have KF:(10:Int) ^ (i+1)=10*10 ^ i:=by rw[Int.pow_succ];omega
             have Ii:(i:Int)<((l.length+1:Nat):Int):=by simp only[An] at Cv;omega
             have C6:(0:Int)<=(i:Int):=by omega
             by_cases OD:c<48
             . simp only[go_sem,Ab,Ii,C6,SB,OD];refine Cp ?_;simp only[go_sem,Qv,bad c ⟨i,Cv,SB⟩ (by simp[OF];omega)];try simp
             . by_cases I4:57<c
               . simp only[go_sem,Ab,Ii,C6,SB,OD,I4];refine Cp ?_;simp only[go_sem,Qv,bad c ⟨i,Cv,SB⟩ (by simp[OF];omega)];try simp
               . have w1:IntKind.i64.wrap (10*Ee ((b::l).take i))=10*Ee ((b::l).take i):=by rw[B3]<;>omega
                 have w2:IntKind.u8.wrap (c - 48)=c - 48:=by rw[IntKind.wrap_u8];omega
                 have w3:IntKind.i64.wrap (c - 48)=c - 48:=by rw[B3]<;>omega
                 have w4:IntKind.i64.wrap (10*Ee ((b::l).take i)+(c - 48))=Ee ((b::l).take (i+1)):=by rw[SA,B3]<;>omega
                 simp only[go_sem,Ab,Ii,C6,SB,OD,I4,w1,w2,w3,w4,hw];refine ih (i+1) _ ⟨hle,by omega,by omega,λ j hj=>?_⟩ (by omega) (BW (by simp[Le,Q8,C8,get,DO,Ey,Fa,D.ids]));rcases AF.1 hj with hj | rfl
                 . exact he j hj
                 . rw[SB];simp[OF];omega
           . simp only[go_sem];have Ea:i=(b::l).length:=by simp at h2 ⊢;omega
             have DD:OT (b::l)=true:=by
               refine AB.2 λ x hx=>?_;obtain ⟨j,hj,rfl⟩:=AD.1 hx;have:=he j (by omega)
               simpa only[List.getD,List.getElem?_eq_getElem hj,Option.getD_some] using this
             have hp:(10:Int) ^ i<=10000:=p10 i (by omega);rw[Ea,Ar] at Q5 hv1;rw[Ea,Ar];have w5:IntKind.i64.wrap (0 - Ee (b::l))=0 - Ee (b::l):=by rw[<-Ea] at hv1;rw[B3]<;>omega
             (try simp only[go_sem,w5]);refine Cp ?_;simp only[go_sem,Kd,DD];try simp
 . have hk:Kn (c::r)=numOf false (c::r):=by
     have:My (c::r) [45]=false:=by
       simp[My];intro h;subst h;exact hc rfl
     simp[Kn,this]
   rw[hk];simp only[go_sem,hc,AX];refine ⟨by omega,?_⟩;try simp only[go_sem,hc,AX]
   revert hc hk
   generalize c=b;generalize r=l;intro hc hk;by_cases hL:(4:Int)<((l.length+1:Nat):Int)
   . simp only[go_sem,hL];refine Cp ?_;simp only[go_sem];have:4<l.length+1:=by omega
     try simp[numOf,this]
   . have hL':¬4<l.length+1:=by omega
     have hlen:(b::l).length<=4:=by simp only[An];omega
     have bad:∀c:Int,(∃i,i<(b::l).length/\(((b::l).getD i 0).toNat:Int)=c)->OF c=false->OT (b::l)=false:=by
       rintro c ⟨i,hi,hc⟩ hf;rw[Bool.eq_false_iff];intro ht;have:=AB.1 ht ((b::l).getD i 0) (by simp only[List.getD,Az hi,A5];exact AN hi);simp only[hc,hf] at this;cases this
     by_cases h1:(1:Int)<((l.length+1:Nat):Int)<;>by_cases V8:(b.toNat:Int)=48
     . have Kd:numOf false (b::l)=(0,false):=by
         have:1<l.length+1:=by omega
         simp only[numOf,V8,this,and_self,or_true,AP]
       simp only[go_sem,hL,AX,V8,h1];refine ⟨by omega,Cp ?_⟩;simp only[go_sem,Kd]
     all_goals
       have Kd:numOf false (b::l)=if OT (b::l) then (if false then 0 - Ee (b::l) else Ee (b::l),true) else (0,false):=by
         have:¬((b.toNat:Int)=48/\(false=true∨1<l.length+1)):=by
           rintro ⟨h,h2 | h2⟩
           . cases h2
           . first | exact V8 h | omega
         simp only[numOf,hL',this,or_self,Bb]
       . have Qv:=Kd;simp only[go_sem,hL,AX,V8,h1];refine ⟨by omega,?_⟩;(try simp only[go_sem]);refine B7 (λ i=>⟨[(0,.p (.str (b::l))),(6,.p (.int .i64 (i:Nat))),(5,.p (.int .i64 (Ee ((b::l).take i)))),(4,.p (.bool false))],[],65⟩) (λ i=>i<=l.length+1/\0<=Ee ((b::l).take i)/\Ee ((b::l).take i)<10 ^ i/\∀j,j<i->OF ((b::l).getD j 0).toNat=true) (λ i=>l.length+1 - i) 0 ⟨AE _,by simp[Ee],by simp[Ee],by simp⟩
           (BW (by first | (simp[Le,Q8,C8,get,DO,Ey,Fa,D.ids,Ee];done) | simp[Le,Q8,C8,get,DO,Ey,Fa,D.ids,Ee,hng])) ?_
         rintro i n ⟨hi,Q5,hv1,he⟩ ih;simp only[go_sem];refine Cy (λ h2=>?_) (λ h2=>?_)
         . have Cv:i<(b::l).length:=by simp at h2 ⊢;omega
           simp only[go_sem];have hw:=Cd i (by omega);have SA:=Re (b::l) i Cv;generalize SB:(((b::l).getD i 0).toNat:Int)=c at SA;have hle:i+1<=l.length+1:=by simp only[An] at Cv;omega
           have hp:(10:Int) ^ i<=10000:=p10 i (by omega);have KF:(10:Int) ^ (i+1)=10*10 ^ i:=by rw[Int.pow_succ];omega
           have Ii:(i:Int)<((l.length+1:Nat):Int):=by simp only[An] at Cv;omega
           have C6:(0:Int)<=(i:Int):=by omega
           by_cases OD:c<48
           . simp only[go_sem,Ab,Ii,C6,SB,OD];refine Cp ?_;simp only[go_sem,Qv,bad c ⟨i,Cv,SB⟩ (by simp[OF];omega)];try simp
           . by_cases I4:57<c
             . simp only[go_sem,Ab,Ii,C6,SB,OD,I4];refine Cp ?_;simp only[go_sem,Qv,bad c ⟨i,Cv,SB⟩ (by simp[OF];omega)];try simp
             . have w1:IntKind.i64.wrap (10*Ee ((b::l).take i))=10*Ee ((b::l).take i):=by rw[B3]<;>omega
               have w2:IntKind.u8.wrap (c - 48)=c - 48:=by rw[IntKind.wrap_u8];omega
               have w3:IntKind.i64.wrap (c - 48)=c - 48:=by rw[B3]<;>omega
               have w4:IntKind.i64.wrap (10*Ee ((b::l).take i)+(c - 48))=Ee ((b::l).take (i+1)):=by rw[SA,B3]<;>omega
               simp only[go_sem,Ab,Ii,C6,SB,OD,I4,w1,w2,w3,w4,hw];refine ih (i+1) _ ⟨hle,by omega,by omega,λ j hj=>?_⟩ (by omega) (BW (by simp[Le,Q8,C8,get,DO,Ey,Fa,D.ids]));rcases AF.1 hj with hj | rfl
               . exact he j hj
               . rw[SB];simp[OF];omega
         . simp only[go_sem];have Ea:i=(b::l).length:=by simp at h2 ⊢;omega
           have DD:OT (b::l)=true:=by
             refine AB.2 λ x hx=>?_;obtain ⟨j,hj,rfl⟩:=AD.1 hx;have:=he j (by omega)
             simpa only[List.getD,List.getElem?_eq_getElem hj,Option.getD_some] using this
           have hp:(10:Int) ^ i<=10000:=p10 i (by omega);rw[Ea,Ar] at Q5 hv1;rw[Ea,Ar];have w5:IntKind.i64.wrap (0 - Ee (b::l))=0 - Ee (b::l):=by rw[<-Ea] at hv1;rw[B3]<;>omega
           (try simp only[go_sem]);refine Cp ?_;simp only[go_sem,Kd,DD];try simp
end Go.Am
end
