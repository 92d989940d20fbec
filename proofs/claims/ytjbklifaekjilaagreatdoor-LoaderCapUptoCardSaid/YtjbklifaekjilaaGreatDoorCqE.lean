/- Texts of this proof, what it rests on, merged: part E. -/
import Derived.Test.YtjbklifaekjilaaGreatDoorProg
import Derived.KernelRfl
import Derived.Test.YtjbklifaekjilaaGreatDoorCqD
noncomputable section
namespace Go.Am
open Go Go.Proofs
open Tryz
set_option maxRecDepth 100000
set_option linter.unusedVariables false
set_option linter.unusedSimpArgs false
set_option maxHeartbeats 2000000
theorem ti2:Cx prog 2=some ⟨1,8,.int .i64,.p (.int .i64 0)⟩:=by kernel_rfl
theorem ti3:Cx prog 3=some ⟨1,8,.int .i64,.p (.int .i64 0)⟩:=by kernel_rfl
theorem ti4:Cx prog 4=some ⟨1,1,.bool,.p (.bool false)⟩:=by kernel_rfl
theorem ti5:Cx prog 5=some ⟨1,1,.int .u8,.p (.int .u8 0)⟩:=by kernel_rfl
theorem ti9:Cx prog 9=some ⟨1,16,.string,.p (.str [])⟩:=by kernel_rfl
theorem Ayk:Cx prog 21=some ⟨1,4,.int .i32,.p (.int .i32 0)⟩:=by kernel_rfl
theorem Anu:Cx prog 22=some ⟨1,24,.slice 3,.cl []⟩:=by kernel_rfl
theorem Ayj:Cx prog 26=some ⟨1,24,.slice 9,.cl []⟩:=by kernel_rfl
theorem Ayi:Cx prog 27=some ⟨1,24,.slice 76,.cl []⟩:=by kernel_rfl
theorem Ahm:Cx prog 28=some ⟨1,24,.slice 22,.cl []⟩:=by kernel_rfl
theorem Ayh:Cx prog 29=some ⟨1,24,.slice 68,.cl []⟩:=by kernel_rfl
theorem Ayg:Cx prog 31=some ⟨4,32,.struct [(0,3),(1,3),(2,3),(3,3)],.agg [.p (.int .i64 0),.p (.int .i64 0),.p (.int .i64 0),.p (.int .i64 0)]⟩:=by kernel_rfl
theorem Ayf:Cx prog 33=some ⟨8,128,.struct [(0,27),(1,28),(2,29),(3,22),(4,31)],.agg [.cl [],.cl [],.cl [],.cl [],.p (.int .i64 0),.p (.int .i64 0),.p (.int .i64 0),.p (.int .i64 0)]⟩:=by kernel_rfl
theorem Aye:Cx prog 35=some ⟨4,48,.struct [(0,3),(1,22),(2,3),(3,3)],.agg [.p (.int .i64 0),.cl [],.p (.int .i64 0),.p (.int .i64 0)]⟩:=by kernel_rfl
theorem Ayd:Cx prog 42=some ⟨1,24,.slice 80,.cl []⟩:=by kernel_rfl
theorem Ayc:Cx prog 45=some ⟨1,24,.slice 82,.cl []⟩:=by kernel_rfl
theorem Ayb:Cx prog 52=some ⟨1,24,.slice 4,.cl []⟩:=by kernel_rfl
theorem Aya:Cx prog 60=some ⟨2,32,.struct [(0,22),(1,3)],.agg [.cl [],.p (.int .i64 0)]⟩:=by kernel_rfl
theorem Ay9:Cx prog 68=some ⟨6,56,.struct [(0,9),(1,4),(2,3),(3,3),(4,3),(5,3)],.agg [.p (.str []),.p (.bool false),.p (.int .i64 0),.p (.int .i64 0),.p (.int .i64 0),.p (.int .i64 0)]⟩:=by kernel_rfl
theorem Ant:Cx prog 72=some ⟨1,24,.slice 5,.cl []⟩:=by kernel_rfl
theorem Ay8:Cx prog 76=some ⟨3,32,.struct [(0,9),(1,3),(2,3)],.agg [.p (.str []),.p (.int .i64 0),.p (.int .i64 0)]⟩:=by kernel_rfl
theorem Ay7:Cx prog 80=some ⟨2,32,.struct [(0,3),(1,26)],.agg [.p (.int .i64 0),.cl []]⟩:=by kernel_rfl
theorem Ay6:Cx prog 82=some ⟨4,64,.struct [(0,3),(1,3),(2,26),(3,22)],.agg [.p (.int .i64 0),.p (.int .i64 0),.cl [],.cl []]⟩:=by kernel_rfl
theorem Ay5:Cx prog 95=some ⟨1,8,.other,.bad⟩:=by kernel_rfl
theorem Ay4:Cx prog 98=some ⟨1,8,.other,.bad⟩:=by kernel_rfl
theorem Auv:Cx prog 115=some ⟨1,24,.slice 120,.cl []⟩:=by kernel_rfl
theorem Auu:Cx prog 117=some ⟨14,208,.struct [(0,33),(8,95),(9,95),(10,22),(11,3),(12,115),(13,4)],.agg [.cl [],.cl [],.cl [],.cl [],.p (.int .i64 0),.p (.int .i64 0),.p (.int .i64 0),.p (.int .i64 0),.bad,.bad,.cl [],.p (.int .i64 0),.cl [],.p (.bool false)]⟩:=by kernel_rfl
theorem Aut:Cx prog 120=some ⟨2,16,.array 2 3,.agg [.p (.int .i64 0),.p (.int .i64 0)]⟩:=by kernel_rfl
theorem Ax1:Ake prog 120=some [.int,.int]:=by kernel_rfl
theorem Aqr:Cx prog 137=some ⟨3,40,.struct [(0,9),(1,9),(2,4)],.agg [.p (.str []),.p (.str []),.p (.bool false)]⟩:=by kernel_rfl
theorem Aqq:Cx prog 138=some ⟨21,280,.array 7 137,.agg [.p (.str []),.p (.str []),.p (.bool false),.p (.str []),.p (.str []),.p (.bool false),.p (.str []),.p (.str []),.p (.bool false),.p (.str []),.p (.str []),.p (.bool false),.p (.str []),.p (.str []),.p (.bool false),.p (.str []),.p (.str []),.p (.bool false),.p (.str []),.p (.str []),.p (.bool false)]⟩:=by kernel_rfl
theorem Aqp:Cx prog 142=some ⟨2,32,.struct [(0,140),(1,72)],.agg [.np,.cl []]⟩:=by kernel_rfl
theorem Aus:Cx prog 155=some ⟨1,24,.slice 137,.cl []⟩:=by kernel_rfl
theorem Aur:Cx prog 160=some ⟨1,8,.int .u64,.p (.int .u64 0)⟩:=by kernel_rfl
theorem Auq:Cx prog 163=some ⟨9,200,.struct [(0,28),(1,52),(2,22),(3,22),(4,22),(5,22),(6,22),(7,3),(8,22)],.agg [.cl [],.cl [],.cl [],.cl [],.cl [],.cl [],.cl [],.p (.int .i64 0),.cl []]⟩:=by kernel_rfl
theorem Aup:Cx prog 192=some ⟨1,8,.int .u64,.p (.int .u64 0)⟩:=by kernel_rfl
theorem Av4:mapOf prog 95=some (.str,.int .i64 0):=by kernel_rfl
theorem Aiw:mapOf prog 98=some (.int .i64,.bool false):=by kernel_rfl
theorem Abn:Enters prog 6:=call6
theorem Apj:Enters prog 8:=call8
theorem Alu:Enters prog 10:=call10
theorem Als:Enters prog 18:=call18
theorem Alr:Enters prog 19:=call19
theorem Alq:Enters prog 21:=call21
theorem Alp:Enters prog 22:=call22
theorem Alo:Enters prog 24:=call24
theorem Aln:Enters prog 25:=call25
theorem Alm:Enters prog 26:=call26
theorem All:Enters prog 27:=call27
theorem Alk:Enters prog 28:=call28
theorem Alj:Enters prog 29:=call29
theorem Ali:Enters prog 30:=call30
theorem Alh:Enters prog 31:=call31
theorem Alg:Enters prog 32:=call32
theorem YU:Enters prog 40:=call40
theorem YT:Enters prog 41:=call41
theorem Alf:Enters prog 42:=call42
theorem Ale:Enters prog 43:=call43
theorem Ald:Enters prog 44:=call44
theorem YS:Enters prog 45:=call45
theorem Alc:Enters prog 46:=call46
theorem Alb:Enters prog 47:=call47
theorem Ala:Enters prog 48:=call48
theorem Al9:Enters prog 49:=call49
theorem Al8:Enters prog 50:=call50
theorem Al7:Enters prog 51:=call51
theorem Al6:Enters prog 52:=call52
theorem Al5:Enters prog 56:=call56
theorem Al4:Enters prog 57:=call57
theorem Al3:Enters prog 58:=call58
theorem Al2:Enters prog 59:=call59
theorem Al1:Enters prog 60:=call60
theorem Al0:Enters prog 61:=call61
theorem Akz:Enters prog 62:=call62
theorem Aky:Enters prog 63:=call63
theorem Akx:Enters prog 64:=call64
theorem Akw:Enters prog 65:=call65
theorem Akv:Enters prog 66:=call66
theorem YR:Enters prog 67:=call67
theorem Aku:Enters prog 68:=call68
theorem Akt:Enters prog 73:=call73
theorem Aks:Enters prog 82:=call82
theorem Akr:Enters prog 83:=call83
theorem Akq:Enters prog 84:=call84
theorem Akp:Enters prog 85:=call85
theorem Ako:Enters prog 86:=call86
theorem Akn:Enters prog 87:=call87
theorem Akm:Enters prog 88:=call88
theorem YQ:Enters prog 89:=call89
theorem Akl:Enters prog 90:=call90
theorem Akk:Enters prog 91:=call91
theorem Akj:Enters prog 92:=call92
theorem Aki:Enters prog 93:=call93
theorem Akh:Enters prog 94:=call94
theorem YP:Enters prog 95:=call95
theorem Akg:Enters prog 96:=call96
theorem Akf:Enters prog 97:=call97
theorem YO:Enters prog 98:=call98
theorem Ag0:Enters prog 102:=call102
theorem Afz:Enters prog 103:=call103
theorem Afy:Enters prog 104:=call104
theorem Afx:Enters prog 105:=call105
theorem Afw:Enters prog 106:=call106
theorem Afv:Enters prog 107:=call107
theorem Afu:Enters prog 108:=call108
theorem Aft:Enters prog 109:=call109
theorem Afs:Enters prog 110:=call110
theorem Afr:Enters prog 111:=call111
theorem Afq:Enters prog 112:=call112
theorem Afp:Enters prog 113:=call113
theorem Afo:Enters prog 114:=call114
theorem Afn:Enters prog 115:=call115
theorem Afm:Enters prog 116:=call116
theorem Afl:Enters prog 117:=call117
theorem Afk:Enters prog 118:=call118
theorem Afj:Enters prog 119:=call119
theorem Afi:Enters prog 120:=call120
theorem Afh:Enters prog 123:=call123
theorem Afg:Enters prog 124:=call124
theorem Aff:Enters prog 125:=call125
theorem Afe:Enters prog 126:=call126
theorem Afd:Enters prog 127:=call127
theorem Afc:Enters prog 128:=call128
theorem Afb:Enters prog 130:=call130
theorem QD:Enters prog 131:=call131
theorem Vw:Enters prog 132:=call132
theorem Afa:Enters prog 133:=call133
theorem Af9:Enters prog 138:=call138
theorem Af8:Enters prog 139:=call139
theorem Af7:Enters prog 140:=call140
theorem Af6:Enters prog 141:=call141
theorem Af5:Enters prog 142:=call142
theorem Af4:Enters prog 143:=call143
theorem Af3:Enters prog 144:=call144
theorem Af2:Enters prog 150:=call150
theorem Af1:Enters prog 154:=call154
theorem Af0:Enters prog 155:=call155
theorem Aez:Enters prog 156:=call156
theorem Aey:Enters prog 157:=call157
theorem Aex:Enters prog 158:=call158
theorem Aew:Enters prog 163:=call163
theorem Aev:Enters prog 164:=call164
theorem Aeu:Enters prog 169:=call169
theorem Aet:Enters prog 170:=call170
theorem Vv:Enters prog 171:=call171
theorem Aes:Enters prog 172:=call172
theorem Aer:Enters prog 178:=call178
theorem Aeq:Enters prog 179:=call179
theorem Aep:Enters prog 186:=call186
theorem mixed:prog.follows .mixedOrders=true:=by kernel_rfl
attribute [go_sem] ti2 ti3 ti4 ti5 ti9 Ayk Anu Ayj
attribute [go_sem] Ayi Ahm Ayh Ayg Ayf Aye
attribute [go_sem] Ayd Ayc Ayb Aya Ay9 Ant
attribute [go_sem] Ay8 Ay7 Ay6
attribute [go_sem] Ay5 Ay4 Auv Auu Aut Ax1 Aqr
attribute [go_sem] Aqq Aqp Aus Aur Auq
attribute [go_sem] Aup
attribute [go_sem] Av4 Aiw
attribute [go_sem] ntmps6 results6 ntmps8 results8 ntmps10 results10
attribute [go_sem] ntmps18 results18 ntmps19 results19 ntmps21 results21 ntmps22 results22
attribute [go_sem] ntmps24 results24 ntmps25 results25 ntmps26 results26 ntmps27 results27 ntmps28 results28 ntmps29
attribute [go_sem] results29 ntmps30 results30 ntmps31 results31 ntmps32 results32
attribute [go_sem] ntmps40 results40 ntmps41
attribute [go_sem] results41 ntmps42 results42 ntmps43 results43 ntmps44 results44 ntmps45 results45 ntmps46 results46 ntmps47
attribute [go_sem] results47 ntmps48 results48 ntmps49 results49 ntmps50 results50 ntmps51 results51 ntmps52 results52
attribute [go_sem] ntmps56 results56 ntmps57 results57 ntmps58 results58 ntmps59
attribute [go_sem] results59 ntmps60 results60 ntmps61 results61 ntmps62 results62 ntmps63 results63 ntmps64 results64 ntmps65
attribute [go_sem] results65 ntmps66 results66 ntmps67 results67 ntmps68 results68
attribute [go_sem] ntmps73 results73
attribute [go_sem] ntmps82 results82 ntmps83
attribute [go_sem] results83 ntmps84 results84 ntmps85 results85 ntmps86 results86 ntmps87 results87 ntmps88 results88 ntmps89
attribute [go_sem] results89 ntmps90 results90 ntmps91 results91 ntmps92 results92 ntmps93 results93 ntmps94 results94 ntmps95
attribute [go_sem] results95 ntmps96 results96 ntmps97 results97 ntmps98 results98
attribute [go_sem] ntmps102 results102 ntmps103 results103 ntmps104 results104 ntmps105 results105 ntmps106 results106 ntmps107
attribute [go_sem] results107 ntmps108 results108 ntmps109 results109 ntmps110 results110 ntmps111 results111 ntmps112 results112 ntmps113
attribute [go_sem] results113 ntmps114 results114 ntmps115 results115 ntmps116 results116 ntmps117 results117 ntmps118 results118 ntmps119
attribute [go_sem] results119 ntmps120 results120 ntmps123 results123 ntmps124 results124 ntmps125
attribute [go_sem] results125 ntmps126 results126 ntmps127 results127 ntmps128 results128 ntmps130 results130 ntmps131
attribute [go_sem] results131 ntmps132 results132 ntmps133 results133
attribute [go_sem] ntmps138 results138 ntmps139 results139 ntmps140 results140 ntmps141 results141 ntmps142 results142 ntmps143
attribute [go_sem] results143 ntmps144 results144
attribute [go_sem] ntmps150 results150 ntmps154 results154 ntmps155
attribute [go_sem] results155 ntmps156 results156 ntmps157 results157 ntmps158 results158
attribute [go_sem] ntmps163 results163 ntmps164 results164 ntmps169
attribute [go_sem] results169 ntmps170 results170 ntmps171 results171 ntmps172 results172
attribute [go_sem] ntmps178 results178 ntmps179 results179
attribute [go_sem] ntmps186 results186
attribute [go_sem ↓] reduceIte
attribute [go_sem] Nat.reduceLT Nat.reduceLeDiff Nat.reduceEqDiff Nat.reduceAdd Nat.reduceMul Nat.reduceSub reduceCtorEq Int.reduceLT Int.reduceLE Int.reduceEq Int.reduceToNat decide_true decide_false Int.reduceNeg Int.cast_ofNat_Int sg AO.sg Option.isNone_none
def BT(l:List Int):List (List Pd):=l.map λ n=>[.int .i64 n]
def CD(l:List (List UInt8)):List (List Pd):=l.map λ s=>[.str s]
theorem BS(l:List Int):(BT l).length=l.length:=by simp[BT]
theorem Cg(l:List Int)(i:Nat)(h:i<l.length):(BT l).getD i []=[.int .i64 (l.getD i 0)]:=by simp[BT,List.getD,h]
theorem B1(l:List (List UInt8)):(CD l).length=l.length:=by simp[CD]
theorem DW(l:List (List UInt8))(i:Nat)(h:i<l.length):(CD l).getD i []=[.str (l.getD i [])]:=by simp[CD,List.getD,h]
theorem Fo(l:List Int)(x:Int):BT (l++[x])=BT l++[[.int .i64 x]]:=by simp[BT]
theorem EV(l:List (List UInt8))(x:List UInt8):CD (l++[x])=CD l++[[.str x]]:=by simp[CD]
theorem MS(l:List Int)(n:Nat)(h:l.length<=n):(BT l).take n=BT l:=List.take_of_length_le (by simpa [BT] using h)
theorem Ku(l:List (List UInt8))(n:Nat)(h:l.length<=n):(CD l).take n=CD l:=List.take_of_length_le (by simpa [CD] using h)
theorem EN(n:Nat)(x:List Pd)(h:x.length=n):Ly n [x]:=by simp[Ly,h]
theorem Pp(l:List (List UInt8))(i:Nat)(x:List UInt8):CD (l.set i x)=(CD l).set i [.str x]:=by simp[CD,BR]
theorem C9(l:List Int)(i:Nat)(x:Int):BT (l.set i x)=(BT l).set i [.int .i64 x]:=by simp[BT,BR]
theorem CJ{α:Type}(l:List α)(i:Nat)(x:α)(h:i<l.length):l.getD i x∈l:=by simp only[List.getD,Ax h,AY];exact AW h
theorem D1{α:Type}(l:List α)(i:Nat)(x:α)(h:i<l.length):l.drop i=l.getD i x::l.drop (i+1):=by rw[AT h];simp[List.getD,h]
def An8(x:Int):Prop:=-9223372036854775808<=x/\x<=9223372036854775807
theorem Cf(i:Nat)(h:i<9223372036854775807):IntKind.i64.wrap ((i:Int)+1)=((i+1:Nat):Int):=by rw[BY]<;>omega
def cut(v n:Int):Int:=if n<=1 then 0 else if v.tmod n<0 then v.tmod n+n else v.tmod n
theorem Ath(v n:Int):0<=cut v n/\(cut v n<n∨cut v n=0):=by
 unfold cut;split
 . omega
 . have h1:=Int.tmod_lt_of_pos v (show 0<n by omega);have h2:=Int.lt_tmod_of_pos v (show 0<n by omega);split<;>omega
theorem Am9(v n:Int)(hn:An8 n):BV prog 28 [.p (.int .i64 v),.p (.int .i64 n)] [] λ h r=>h=[]/\r= .p (.int .i64 (cut v n)):=by
 unfold An8 at hn;refine BX func28 rfl Alk (by simp[Tryz.f28]) ?_;simp only[go_sem];refine Cv (λ h1=>?_) (λ h1=>?_)
 . simp only[go_sem];simp at h1;simp[cut,h1]
 . simp only[go_sem];simp at h1;refine ⟨by omega,?_⟩;refine Cv (λ h2=>?_) (λ h2=>?_)
   . simp at h2;have h3:IntKind.i64.wrap (v.tmod n+n)=v.tmod n+n:=by
       have h4:=Int.tmod_lt_of_pos v (show 0<n by omega);have h5:=Int.lt_tmod_of_pos v (show 0<n by omega);rw[BY]<;>omega
     simp only[go_sem,h3];simp only[cut,h2,AL,true_and];rw[if_neg (by omega)]
   . simp only[go_sem];simp at h2;simp only[cut,true_and];rw[if_neg (by omega),if_neg (by omega)]
def L2(l:List Int)(at_:Nat)(n:Int):Int:=cut (if at_<l.length then l.getD at_ 0 else ((at_:Int)*7).tmod 11) n
theorem Aip(l:List Int)(at_:Nat)(n:Int):0<=L2 l at_ n/\(L2 l at_ n<n∨L2 l at_ n=0):=Ath _ _
theorem CU(l:List Int)(at_:Nat)(n:Int)(hn:0<n):∃k:Nat,L2 l at_ n=(k:Int)/\(k:Int)<n:=by
 have h:=Aip l at_ n;exact ⟨(L2 l at_ n).toNat,by omega,by omega⟩
theorem CF(n:Int)(h0:0<=n)(h1:n<=1000000):An8 n:=by unfold An8;omega
theorem FJ(l:List UInt8):(DX l).length=l.length:=by simp[DX]
theorem Y1(l:List UInt8)(i:Nat)(h:i<l.length):(DX l).getD i []=[.int .u8 (l.getD i 0).toNat]:=by simp[DX,List.getD,h]
def C7(l:List Int)(at_:Nat):List D:=[.p (.sl (BT l)),.p (.int .i64 (at_:Nat))]
theorem ZF:(∀st st1:St,Le st st1=(st1.n=st.n/\T1 st.env st1.env/\C5 st.hp st1.hp/\((Ej st1.env++DL st1.hp).all λ id=>(get st1.hp id).isSome)=true/\F7 st1.hp st.hp))/\
   (∀e:List (Nat×D),T1 e []=True)/\(∀(e:List (Nat×D)) (t:Nat) (d:D) (r:List (Nat×D)),T1 e ((t,d)::r)=(get e t=some d/\T1 e r))/\
   (∀h:Hp,C5 h []=True)/\(∀(h:Hp) (id:Nat) (o:AO) (r:Hp),C5 h ((id,o)::r)=(get h id=some o/\C5 h r))/\
   (∀(α:Type) (k:Nat),get ([]:List (Nat×α)) k=none)/\(∀(α:Type) (k':Nat) (x:α) (r:List (Nat×α)) (k:Nat),get ((k',x)::r) k=if k'=k then some x else get r k)/\
   Ej []=[]/\(∀(t:Nat) (d:D) (r:List (Nat×D)),Ej ((t,d)::r)=d.ids++Ej r)/\DL []=[]/\(∀(id:Nat) (o:AO) (r:Hp),DL ((id,o)::r)=o.ids++DL r)/\
   (∀h:Hp,F7 h []=True)/\(∀(h:Hp) (id:Nat) (o:AO) (r:Hp),F7 h ((id,o)::r)=((base<=id->get h id=some o)/\F7 h r))/\
   (∀x,D.ids (.p x)=[])/\(∀cs,D.ids (.agg cs)=C6 cs)/\(∀cs,D.ids (.De cs)=C6 cs)/\(∀es,D.ids (.cl es)=[])/\(∀es,D.ids (.cz es)=[])/\(∀i a b c,D.ids (.ref i a b c)=[i])/\(∀i a,D.ids (.ptr i a)=[i])/\(∀cs,D.ids (.pe cs)=[])/\
   (∀i a b c,D.ids (.ea i a b c)=[i])/\(∀f cs,D.ids (.fn f cs)=C6 cs)/\D.ids .np=[]/\(∀i,D.ids (.mv i)=[i])/\(∀i a,D.ids (.Dk i a)=[i])/\(∀i a b,D.ids (.Ls i a b)=[i])/\(∀i a b c,D.ids (.nr i a b c)=[i])/\D.ids .PU=[]/\
   C6 []=[]/\(∀d r,C6 (d::r)=D.ids d++C6 r)/\(∀cs t,AO.ids (.box cs t)=C6 cs)/\(∀t sz es,AO.ids (.arr t sz es)=[])/\(∀sz es,AO.ids (.Lo sz es)=[])/\(∀l q,AO.ids (.iter l q)=[])/\(∀g cs,AO.ids (.C8 g cs)=[])/\(∀x,AO.ids (.E4 x)=[])/\(∀l,AO.ids (.mp l)=[])/\(∀t e sz k rows hole,AO.ids (.Dj t e sz k rows hole)=[])/\
   (∀(α:Type) (k:Nat) (x:α),Co [] k x=[(k,x)])/\(∀(α:Type) (k':Nat) (x':α) (r:List (Nat×α)) (k:Nat) (x:α),Co ((k',x')::r) k x=if k'=k then (k,x)::r else (k',x')::Co r k x)/\base=1000000:=by
 refine ⟨?_,?_,?_,?_,?_,?_,?_,?_,?_,?_,?_,?_,?_,?_,?_,?_,?_,?_,?_,?_,?_,?_,?_,?_,?_,?_,?_,?_,?_,?_,?_,?_,?_,?_,?_,?_,?_,?_,?_,?_,?_,?_⟩<;>intros<;>first | rfl | simp only[D.ids,C6,AO.ids]
theorem Cq{P:Program}{s:Bool}{ops rest:List Oper}{k:Kt}{dst:Option Nat}{st:St}{h:Hp}{T:List Nat}{f:FuncId}{ds:List D}{hs:Hp}{S:Prop}{h1:Hp}{d:D}(hc:BV P f ds hs λ h' r=>h'=h1/\r=d)
   (hk:fresh (dst.getD 0) h h1/\O P s ops rest k (({st with hp:=merge T (dst.getD 0) h h1}:St).put dst (d.Ea (back T (dst.getD 0))))):Cc P s ops rest k dst st h T f ds hs S:=DY hc (by rintro _ _ ⟨rfl,rfl⟩;exact hk)
theorem Gq{P:Program}{l:List Oper}{hR:Hp}{r:List (Nat×Nat)}{k:Kt}{kd:Nat}{dst:Option Nat}{st:St}{h:Hp}{T:List Nat}{f:FuncId}{ds:List D}{hs:Hp}{S:Prop}{h1:Hp}{d:D}(hc:BV P f ds hs λ h' x=>h'=h1/\x=d)
   (hk:fresh (dst.getD 0) h h1/\Hd kd (merge T (dst.getD 0) h h1) hR/\G P l hR r k (({st with hp:=merge T (dst.getD 0) h h1}:St).put dst (d.Ea (back T (dst.getD 0))))):Gh P l hR r k kd dst st h T f ds hs S:=Abw hc (by rintro _ _ ⟨rfl,rfl⟩;exact hk)
theorem Da(l:List Int)(at_:Nat)(n:Int)(Ij:at_<1000000000000)(hn:An8 n):
   BV prog 44 [.ptr 1000000 0,.p (.int .i64 n)] [(1000000,.box (C7 l at_))] λ h r=>h=[(1000000,.box (C7 l (at_+1)))]/\r= .p (.int .i64 (L2 l at_ n)):=by
 refine BX func44 rfl Ald (by simp[Tryz.f44]) ?_;have h7:IntKind.i64.wrap ((at_:Int)*7)=(at_:Int)*7:=by rw[BY]<;>omega
 have h8:IntKind.i64.wrap ((at_:Int)+1)=((at_+1:Nat):Int):=by rw[BY]<;>omega
 unfold C7;simp only[go_sem,h7];refine Di [(1000000,.box [.p (.sl (BT l)),.p (.int .i64 (at_:Nat))])] mixed (p:=[(0,0),(1,0),(2,0),(3,0),(4,0),(5,0),(6,0),(7,0),(8,0),(9,0)]) (by kernel_rfl) (by simp[C5,get]) ?_;simp only[go_sem,h7,BS];refine Cv (λ h1=>?_) (λ h1=>?_)
 . have Cj:at_<l.length:=by simp at h1;omega
   refine Di [(1000000,.box [.p (.sl (BT l)),.p (.int .i64 (at_:Nat))])] mixed (p:=[(0,0),(1,0),(2,0),(3,0),(4,0),(5,0),(6,0),(7,0),(8,0),(9,0),(10,0)]) (by kernel_rfl) (by simp[C5,get]) ?_;simp only[go_sem,h8,BS,Ab,Cg l at_ Cj];refine ⟨by omega,DY (Am9 _ _ hn) ?_⟩;rintro h' r ⟨rfl,rfl⟩;simp only[go_sem,h8];simp[L2,Cj]
 . simp only[go_sem,h8];refine Cq (Am9 _ _ hn) ?_;simp only[go_sem,h8];have:¬at_<l.length:=by simp at h1;omega
   simp[L2,this]
structure Dc where
 word:Int
 line:Int
 names:List (List UInt8)
 B2:List Int
 deriving DecidableEq
def Oi:Dc:=⟨0,0,[],[]⟩
def Dc.d(x:Dc):D:= .agg [.p (.int .i64 x.word),.p (.int .i64 x.line),.p (.sl (CD x.names)),.p (.sl (BT x.B2))]
structure Ln where
 num:Int
 fs:List (List UInt8)
 deriving DecidableEq
def ln0:Ln:=⟨0,[]⟩
def Gb(l:List Ln):List (List Pd):=l.map λ x=>[.int .i64 x.num,.sl (CD x.fs)]
theorem Dx(l:List Ln):(Gb l).length=l.length:=by simp[Gb]
theorem Ts(l:List Ln)(i:Nat)(h:i<l.length):(Gb l).getD i []=[.int .i64 (l.getD i ln0).num,.sl (CD (l.getD i ln0).fs)]:=by simp[Gb,List.getD,h]
theorem MR(l:List Ln)(x:Ln):Gb (l++[x])=Gb l++[[.int .i64 x.num,.sl (CD x.fs)]]:=by simp[Gb]
theorem Vz(l:List Ln)(n:Nat)(h:l.length<=n):(Gb l).take n=Gb l:=List.take_of_length_le (by simpa [Gb] using h)
def EK(l:List Dc):List (List Pd):=l.map λ x=>[.int .i64 x.word,.int .i64 x.line,.sl (CD x.names),.sl (BT x.B2)]
theorem Fh(l:List Dc):(EK l).length=l.length:=by simp[EK]
theorem Am1(l:List Dc)(i:Nat)(h:i<l.length):(EK l).getD i []=[.int .i64 (l.getD i Oi).word,.int .i64 (l.getD i Oi).line,.sl (CD (l.getD i Oi).names),.sl (BT (l.getD i Oi).B2)]:=by simp[EK,List.getD,h]
theorem QG(l:List Dc)(x:Dc):EK (l++[x])=EK l++[[.int .i64 x.word,.int .i64 x.line,.sl (CD x.names),.sl (BT x.B2)]]:=by simp[EK]
theorem Ag9(l:List Dc)(n:Nat)(h:l.length<=n):(EK l).take n=EK l:=List.take_of_length_le (by simpa [EK] using h)
def GB(c:Int):Bool:=decide (97<=c/\c<=122)||decide (65<=c/\c<=90)
theorem SK(c:Int):BV prog 82 [.p (.int .u8 c)] [] λ h r=>h=[]/\r= .p (.bool (GB c)):=by
 refine BX func82 rfl Aks (by simp[Tryz.f82]) ?_;by_cases h1:97<=c<;>by_cases h2:c<=122<;>by_cases h3:65<=c<;>by_cases h4:c<=90<;>(try omega)<;>
 . simp only[go_sem,h1,h2,h3,h4];simp[GB,h1,h2,h3,h4]
theorem SJ(c:Int):BV prog 120 [.p (.int .u8 c)] [] λ h r=>h=[]/\r= .p (.bool (GB c)):=by
 refine BX func120 rfl Afi (by simp[Tryz.f120]) ?_;by_cases h1:97<=c<;>by_cases h2:c<=122<;>by_cases h3:65<=c<;>by_cases h4:c<=90<;>(try omega)<;>
 . simp only[go_sem,h1,h2,h3,h4];simp[GB,h1,h2,h3,h4]
def ZR(c:Int):Bool:=GB c||decide (48<=c/\c<=57)||decide (c=45)||decide (c=95)
def CG(l:List UInt8):Bool:=match l with
 | []=>false
 | b::_=>decide (l.length<=12)&&GB b.toNat&&l.all λ c=>ZR c.toNat
theorem EX(c:Int):ZR c=(GB c||(decide (48<=c)&&decide (c<=57))||decide (c=45)||decide (c=95)):=by simp[ZR]
theorem OT(l:List UInt8):BV prog 42 [.p (.str l)] [] λ h r=>h=[]/\r= .p (.bool (CG l)):=by
 refine BX func42 rfl Alf (by simp[Tryz.f42]) ?_;cases l with
 | nil=>
   simp only[go_sem];rfl
 | cons b l=>
   by_cases hL:(12:Int)<((l.length+1:Nat):Int)
   . simp only[go_sem,hL];have:¬l.length+1<=12:=by omega
     simp[CG,this]
   . simp only[go_sem,hL,A2];refine ⟨by omega,DY (SK _) ?_⟩;rintro h' r ⟨rfl,rfl⟩;simp only[go_sem,hL];cases hb:GB b.toNat
     . simp only[go_sem];simp[CG,hb]
     . simp only[go_sem];refine ZD rfl ti9 Ant ti5 rfl ?_;simp only[go_sem,FJ];refine B3 (λ i=>⟨[(19,.p (.sl (DX (b::l)))),(20,.p (.int .i64 ((l.length+1:Nat):Int))),(21,.p (.int .i64 (i:Nat)))],[],45⟩) (λ i=>i<=l.length+1/\∀j,j<i->ZR ((b::l).getD j 0).toNat=true) (λ i=>l.length+1 - i) 0 ⟨AG _,by simp⟩
         (Wk.forget (by simp[Le,T1,C5,get,Ej,DL,F7,D.ids])) ?_
       rintro i n ⟨hi,he⟩ ih;simp only[go_sem,FJ];refine Cv (λ h2=>?_) (λ h2=>?_)
       . have Cj:i<(b::l).length:=by simp at h2 ⊢;omega
         simp only[go_sem,FJ,Ab,Y1 (b::l) i Cj];have hw:=Cf i (by omega);generalize WQ:(((b::l).getD i 0).toNat:Int)=c;refine ⟨by simp at Cj;omega,DY (SK _) ?_⟩;rintro h' r ⟨rfl,rfl⟩;have LD:ZR c=false->CG (b::l)=false:=by
           intro hf;have:((b::l).all λ c=>ZR c.toNat)=false:=by
             rw[Bool.eq_false_iff];intro ht;have:=AB.1 ht ((b::l).getD i 0) (by simp only[List.getD,Ax Cj,AY];exact AW Cj);rw[WQ,hf] at this;cases this
           simp only[CG,this,Bool.and_false]
         have SW:ZR c=true->∀j,j<i+1->ZR ((b::l).getD j 0).toNat=true:=by
           intro ht j hj;rcases AF.1 hj with hj | rfl
           . exact he j hj
           . rw[WQ];exact ht
         have hle:i+1<=l.length+1:=by simp only[Aq] at Cj;omega
         cases s6:GB c
         . by_cases h48:c<48<;>by_cases h57:57<c<;>by_cases h45:c=45<;>by_cases h95:c=95<;>(try omega)<;>
           . simp only[go_sem,s6,h48,h57,h45,h95,hw];first
               | exact ⟨trivial,by rw[LD (by simp[EX,s6];omega)]⟩
               | exact ⟨rfl,by rw[LD (by simp[EX,s6];omega)]⟩
               | (rw[LD (by simp[EX,s6];omega)])
               | exact ih (i+1) _ ⟨hle,SW (by simp[EX,s6];omega)⟩ (by omega) (Wk.forget (by simp[Le,T1,C5,get,Ej,DL,F7,D.ids]))
         . simp only[go_sem,s6,hw];exact ih (i+1) _ ⟨hle,SW (by simp[EX,s6])⟩ (by omega) (Wk.forget (by simp[Le,T1,C5,get,Ej,DL,F7,D.ids]))
       . simp only[go_sem];have EG:i=l.length+1:=by simp at h2;omega
         have DZ:((b::l).all λ c=>ZR c.toNat)=true:=by
           refine AB.2 λ x hx=>?_;obtain ⟨j,hj,rfl⟩:=AA.1 hx;have:=he j (by simp at hj;omega)
           simpa only[List.getD,List.getElem?_eq_getElem hj,Option.getD_some] using this
         have Uq:l.length+1<=12:=by omega
         simp only[CG,DZ,hb,Aq,Uq,decide_true,Bool.and_self,and_self]
theorem Aiu(l:List UInt8):BV prog 73 [.p (.str l)] [] λ h r=>h=[]/\r= .p (.bool (CG l)):=by
 refine BX func73 rfl Akt (by simp[Tryz.f73]) ?_;cases l with
 | nil=>
   simp only[go_sem];rfl
 | cons b l=>
   by_cases hL:(12:Int)<((l.length+1:Nat):Int)
   . simp only[go_sem,hL];have:¬l.length+1<=12:=by omega
     simp[CG,this]
   . simp only[go_sem,hL,A2];refine ⟨by omega,DY (SJ _) ?_⟩;rintro h' r ⟨rfl,rfl⟩;simp only[go_sem,hL];cases hb:GB b.toNat
     . simp only[go_sem];simp[CG,hb]
     . simp only[go_sem];refine B3 (λ i=>⟨[(0,.p (.str (b::l))),(3,.p (.int .i64 (i:Nat)))],[],46⟩) (λ i=>i<=l.length+1/\∀j,j<i->ZR ((b::l).getD j 0).toNat=true) (λ i=>l.length+1 - i) 0 ⟨AG _,by simp⟩
         (Wk.forget (by simp[Le,T1,C5,get,Ej,DL,F7,D.ids])) ?_
       rintro i n ⟨hi,he⟩ ih;simp only[go_sem];refine Cv (λ h2=>?_) (λ h2=>?_)
       . have Cj:i<(b::l).length:=by simp at h2 ⊢;omega
         simp only[go_sem,Ab];have hw:=Cf i (by omega);generalize WQ:(((b::l).getD i 0).toNat:Int)=c;refine ⟨by simp at Cj;omega,DY (SJ _) ?_⟩;rintro h' r ⟨rfl,rfl⟩;have LD:ZR c=false->CG (b::l)=false:=by
           intro hf;have:((b::l).all λ c=>ZR c.toNat)=false:=by
             rw[Bool.eq_false_iff];intro ht;have:=AB.1 ht ((b::l).getD i 0) (by simp only[List.getD,Ax Cj,AY];exact AW Cj);rw[WQ,hf] at this;cases this
           simp only[CG,this,Bool.and_false]
         have SW:ZR c=true->∀j,j<i+1->ZR ((b::l).getD j 0).toNat=true:=by
           intro ht j hj;rcases AF.1 hj with hj | rfl
           . exact he j hj
           . rw[WQ];exact ht
         have hle:i+1<=l.length+1:=by simp only[Aq] at Cj;omega
         cases s6:GB c
         . by_cases h48:c<48<;>by_cases h57:57<c<;>by_cases h45:c=45<;>by_cases h95:c=95<;>(try omega)<;>
           . simp only[go_sem,s6,h48,h57,h45,h95,hw];first
               | exact ⟨trivial,by rw[LD (by simp[EX,s6];omega)]⟩
               | exact ⟨rfl,by rw[LD (by simp[EX,s6];omega)]⟩
               | (rw[LD (by simp[EX,s6];omega)])
               | exact ih (i+1) _ ⟨hle,SW (by simp[EX,s6];omega)⟩ (by omega) (Wk.forget (by simp[Le,T1,C5,get,Ej,DL,F7,D.ids]))
         . simp only[go_sem,s6,hw];exact ih (i+1) _ ⟨hle,SW (by simp[EX,s6])⟩ (by omega) (Wk.forget (by simp[Le,T1,C5,get,Ej,DL,F7,D.ids]))
       . simp only[go_sem];have EG:i=l.length+1:=by simp at h2;omega
         have DZ:((b::l).all λ c=>ZR c.toNat)=true:=by
           refine AB.2 λ x hx=>?_;obtain ⟨j,hj,rfl⟩:=AA.1 hx;have:=he j (by simp at hj;omega)
           simpa only[List.getD,List.getElem?_eq_getElem hj,Option.getD_some] using this
         have Uq:l.length+1<=12:=by omega
         simp only[CG,DZ,hb,Aq,Uq,decide_true,Bool.and_self,and_self]
def Lv(s p:List UInt8):Bool:=decide (p.length<=s.length)&&decide (s.take p.length=p)
theorem WU(s p:List UInt8):BV prog 164 [.p (.str s),.p (.str p)] [] λ h r=>h=[]/\r= .p (.bool (Lv s p)):=by
 refine BX func164 rfl Aev (by simp[Tryz.f164]) ?_;by_cases h1:(p.length:Int)<=s.length
 . simp only[go_sem,h1,Ab];refine ⟨by omega,?_⟩;have h2:p.length<=s.length:=by omega
   simp[Lv,h2]
 . simp only[go_sem,h1];have h2:¬p.length<=s.length:=by omega
   simp[Lv,h2]
theorem Uu(s p:List UInt8):BV prog 170 [.p (.str s),.p (.str p)] [] λ h r=>h=[]/\r= .De [.p (.str (if Lv s p then s.drop p.length else s)),.p (.bool (Lv s p))]:=by
 refine BX func170 rfl Aet (by simp[Tryz.f170]) ?_;simp only[go_sem];refine Cq (WU s p) ?_;simp only[go_sem];cases hp:Lv s p
 . simp only[go_sem];refine CR ?_;simp only[go_sem];try simp
 . simp only[go_sem,Ab];have h1:p.length<=s.length:=by
     simp only[Lv,Ar,Ao] at hp;exact hp.1
   refine ⟨by omega,CR ?_⟩;simp only[go_sem];try simp
theorem W6(s p:List UInt8):BV prog 140 [.p (.str s),.p (.str p)] [] λ h r=>h=[]/\r= .De [.p (.str (if Lv s p then s.drop p.length else s)),.p (.bool (Lv s p))]:=by
 refine BX func140 rfl Af7 (by simp[Tryz.f140]) ?_;simp only[go_sem];refine Cq (Uu s p) ?_;simp only[go_sem];refine CR ?_;simp only[go_sem]
def It(l:List UInt8):Int:=l.foldl (λ n c=>10*n+((c.toNat:Int) - 48)) 0
def Ut(c:Int):Bool:=decide (48<=c)&&decide (c<=57)
def Py(l:List UInt8):Bool:=l.all λ c=>Ut c.toNat
def numOf(neg:Bool)(l:List UInt8):Int×Bool:=
 match l with
 | []=>(0,false)
 | b::r=>if 4<r.length+1∨((b.toNat:Int)=48/\(neg=true∨1<r.length+1)) then (0,false)
   else if Py (b::r) then (if neg then 0 - It (b::r) else It (b::r),true) else (0,false)
def OP(s:List UInt8):Int×Bool:=if Lv s [45] then numOf true (s.drop 1) else numOf false s
theorem Ac7(l:List UInt8)(i:Nat)(h:i<l.length):It (l.take (i+1))=10*It (l.take i)+(((l.getD i 0).toNat:Int) - 48):=by
 unfold It;rw[List.take_succ_eq_append_getElem h,List.foldl_append];simp[List.getD,h]
theorem p10(i:Nat)(h:i<=4):(10:Int) ^ i<=10000:=by
 rcases i with _ | _ | _ | _ | _ | i<;>simp at*<;>omega
theorem k8(s:List UInt8):BV prog 108 [.p (.str s)] [] λ h r=>h=[]/\r= .De [.p (.int .i64 (OP s).1),.p (.bool (OP s).2)]:=by
 refine BX func108 rfl Afu (by simp[Tryz.f108]) ?_;simp only[go_sem];refine Cq (W6 s [45]) ?_;simp only[go_sem];have key:OP s=numOf (Lv s [45]) (if Lv s [45]=true then List.drop 1 s else s):=by
   unfold OP;cases Lv s [45]<;>rfl
 rw[key];clear key;generalize Lv s [45]=neg;generalize (if neg=true then List.drop 1 s else s)=l;cases l with
 | nil=>
   simp only[go_sem];refine CR ?_;simp only[go_sem];try simp[numOf]
 | cons b l=>
   by_cases hL:(4:Int)<((l.length+1:Nat):Int)
   . simp only[go_sem,hL];refine CR ?_;simp only[go_sem];have:4<l.length+1:=by omega
     try simp[numOf,this]
   . have hL':¬4<l.length+1:=by omega
     have hlen:(b::l).length<=4:=by simp only[Aq];omega
     have bad:∀c:Int,(∃i,i<(b::l).length/\(((b::l).getD i 0).toNat:Int)=c)->Ut c=false->Py (b::l)=false:=by
       rintro c ⟨i,hi,hc⟩ hf;rw[Bool.eq_false_iff];intro ht;have:=AB.1 ht ((b::l).getD i 0) (by simp only[List.getD,Ax hi,AY];exact AW hi);simp only[hc,hf] at this;cases this
     by_cases Jp:(b.toNat:Int)=48/\(neg=true∨1<l.length+1)
     . obtain ⟨h48,hn⟩:=Jp;have Rx:numOf neg (b::l)=(0,false):=by simp only[numOf,h48,hn,and_self,or_true,AL]
       cases neg
       . have h1:(1:Int)<((l.length+1:Nat):Int):=by simp at hn;omega
         simp only[go_sem,hL,A2,h48,h1];refine ⟨by omega,CR ?_⟩;simp only[go_sem,Rx]
       . simp only[go_sem,hL,A2,h48];refine ⟨by omega,CR ?_⟩;simp only[go_sem,Rx]
     . have Rx:numOf neg (b::l)=if Py (b::l) then (if neg then 0 - It (b::l) else It (b::l),true) else (0,false):=by
         simp only[numOf,hL',Jp,or_self,A7]
       have Ajz:((b.toNat:Int)≠48)∨((b.toNat:Int)=48/\neg=false/\¬(1:Int)<((l.length+1:Nat):Int)):=by
         by_cases h:(b.toNat:Int)=48
         . right;refine ⟨h,?_,?_⟩
           . cases neg
             . rfl
             . exact (Jp ⟨h,.inl rfl⟩).elim
           . intro h1;exact Jp ⟨h,.inr (by omega)⟩
         . exact .inl h
       rcases Ajz with h48 | ⟨h48,hng,h1⟩
       all_goals
         have Ajm:=Rx;first | rw[hng] at Ajm | skip
         first
           | simp only[go_sem,hL,A2,h48,h1,hng]
           | simp only[go_sem,hL,A2,h48]
         refine ⟨by omega,ZD rfl ti9 Ant ti5 rfl ?_⟩;simp only[go_sem,FJ];refine B3 (λ i=>⟨[(35,.p (.sl (DX (b::l)))),(36,.p (.int .i64 ((l.length+1:Nat):Int))),(37,.p (.int .i64 (i:Nat))),(6,.p (.int .i64 (It ((b::l).take i)))),(5,.p (.bool neg))],[],58⟩) (λ i=>i<=l.length+1/\0<=It ((b::l).take i)/\It ((b::l).take i)<10 ^ i/\∀j,j<i->Ut ((b::l).getD j 0).toNat=true) (λ i=>l.length+1 - i) 0 ⟨AG _,by simp[It],by simp[It],by simp⟩
           (Wk.forget (by first | (simp[Le,T1,C5,get,Ej,DL,F7,D.ids,It];done) | simp[Le,T1,C5,get,Ej,DL,F7,D.ids,It,hng])) ?_
         rintro i n ⟨hi,WH,hv1,he⟩ ih;simp only[go_sem,FJ];refine Cv (λ h2=>?_) (λ h2=>?_)
         . have Cj:i<(b::l).length:=by simp at h2 ⊢;omega
           simp only[go_sem,FJ,Ab,Y1 (b::l) i Cj];have hw:=Cf i (by omega);have Aqy:=Ac7 (b::l) i Cj;generalize WQ:(((b::l).getD i 0).toNat:Int)=c at Aqy;refine ⟨by simp only[Aq] at Cj;omega,?_⟩;have hle:i+1<=l.length+1:=by simp only[Aq] at Cj;omega
           have hp:(10:Int) ^ i<=10000:=p10 i (by omega);have JT:(10:Int) ^ (i+1)=10*10 ^ i:=by rw[Int.pow_succ];omega
           by_cases Vh:c<48
           . simp only[go_sem,Vh];refine CR ?_;simp only[go_sem,Ajm,bad c ⟨i,Cj,WQ⟩ (by simp[Ut];omega)];try simp
           . by_cases I8:57<c
             . simp only[go_sem,Vh,I8];refine CR ?_;simp only[go_sem,Ajm,bad c ⟨i,Cj,WQ⟩ (by simp[Ut];omega)];try simp
             . have w1:IntKind.i64.wrap (10*It ((b::l).take i))=10*It ((b::l).take i):=by rw[BY]<;>omega
               have w2:IntKind.u8.wrap (c - 48)=c - 48:=by rw[IntKind.wrap_u8];omega
               have w3:IntKind.i64.wrap (c - 48)=c - 48:=by rw[BY]<;>omega
               have w4:IntKind.i64.wrap (10*It ((b::l).take i)+(c - 48))=It ((b::l).take (i+1)):=by rw[Aqy,BY]<;>omega
               simp only[go_sem,Vh,I8,w1,w2,w3,w4,hw];refine ih (i+1) _ ⟨hle,by omega,by omega,λ j hj=>?_⟩ (by omega) (Wk.forget (by simp[Le,T1,C5,get,Ej,DL,F7,D.ids]));rcases AF.1 hj with hj | rfl
               . exact he j hj
               . rw[WQ];simp[Ut];omega
         . simp only[go_sem];have EG:i=(b::l).length:=by simp at h2 ⊢;omega
           have DZ:Py (b::l)=true:=by
             refine AB.2 λ x hx=>?_;obtain ⟨j,hj,rfl⟩:=AA.1 hx;have:=he j (by omega)
             simpa only[List.getD,List.getElem?_eq_getElem hj,Option.getD_some] using this
           have hp:(10:Int) ^ i<=10000:=p10 i (by omega);rw[EG,Aw] at WH hv1;rw[EG,Aw];have w5:IntKind.i64.wrap (0 - It (b::l))=0 - It (b::l):=by rw[<-EG] at hv1;rw[BY]<;>omega
           refine Cv (λ h3=>?_) (λ h3=>?_)
           . simp only[go_sem,w5];refine CR ?_;have hr3:=Rx;rw[h3] at hr3;first | (simp only[go_sem,hr3,DZ,h3];done) | (simp only[go_sem,hr3,DZ,h3];simp;done) | (simp[hng] at h3;done)
           . simp only[go_sem];refine CR ?_;have hr3:=Rx;rw[h3] at hr3;simp only[go_sem,hr3,DZ,h3];try simp
structure EH where
 name:List UInt8
 x:Int
 y:Int
 deriving DecidableEq
structure CX where
 name:List UInt8
 Cy:Bool
 Ip:Int
 out:Int
 Ch:Int
 base:Int
 deriving DecidableEq
structure Nt where
 blocks:List EH
 next:List (List Int)
 spurs:List CX
 BW:List Int
 cq:Int
 ca:Int
 cd:Int
 cp:Int
 deriving DecidableEq
def DB:EH:=⟨[],0,0⟩
def B8:CX:=⟨[],false,0,0,0,0⟩
def C0(l:List EH):List (List Pd):=l.map λ b=>[.str b.name,.int .i64 b.x,.int .i64 b.y]
def Cw(l:List (List Int)):List (List Pd):=l.map λ r=>[.sl (BT r)]
def CY(l:List CX):List (List Pd):=l.map λ s=>[.str s.name,.bool s.Cy,.int .i64 s.Ip,.int .i64 s.out,.int .i64 s.Ch,.int .i64 s.base]
theorem Ce(l:List EH):(C0 l).length=l.length:=by simp[C0]
theorem Ca(l:List (List Int)):(Cw l).length=l.length:=by simp[Cw]
theorem Cm(l:List CX):(CY l).length=l.length:=by simp[CY]
theorem YY(l:List EH)(i:Nat)(h:i<l.length):(C0 l).getD i []=[.str (l.getD i DB).name,.int .i64 (l.getD i DB).x,.int .i64 (l.getD i DB).y]:=by simp[C0,List.getD,h]
theorem H8(l:List (List Int))(i:Nat)(h:i<l.length):(Cw l).getD i []=[.sl (BT (l.getD i []))]:=by simp[Cw,List.getD,h]
theorem FH(l:List CX)(i:Nat)(h:i<l.length):(CY l).getD i []=[.str (l.getD i B8).name,.bool (l.getD i B8).Cy,.int .i64 (l.getD i B8).Ip,.int .i64 (l.getD i B8).out,.int .i64 (l.getD i B8).Ch,.int .i64 (l.getD i B8).base]:=by simp[CY,List.getD,h]
theorem VB(l:List EH)(b:EH):C0 (l++[b])=C0 l++[[.str b.name,.int .i64 b.x,.int .i64 b.y]]:=by simp[C0]
theorem MQ(l:List CX)(s:CX):CY (l++[s])=CY l++[[.str s.name,.bool s.Cy,.int .i64 s.Ip,.int .i64 s.out,.int .i64 s.Ch,.int .i64 s.base]]:=by simp[CY]
theorem VA(l:List EH)(n:Nat)(h:l.length<=n):(C0 l).take n=C0 l:=List.take_of_length_le (by simpa [C0] using h)
theorem VD(l:List (List Int))(n:Nat)(h:l.length<=n):(Cw l).take n=Cw l:=List.take_of_length_le (by simpa [Cw] using h)
theorem Vy(l:List CX)(n:Nat)(h:l.length<=n):(CY l).take n=CY l:=List.take_of_length_le (by simpa [CY] using h)
theorem Mr(l:List (List Int))(i:Nat)(r:List Int):Cw (l.set i r)=(Cw l).set i [.sl (BT r)]:=by simp[Cw,BR]
def CW(l:List Bool):List (List Pd):=l.map λ b=>[.bool b]
def Nt.cs(n:Nt):List D:=[.p (.sl (C0 n.blocks)),.p (.sl (Cw n.next)),.p (.sl (CY n.spurs)),.p (.sl (BT n.BW)),.p (.int .i64 n.cq),.p (.int .i64 n.ca),.p (.int .i64 n.cd),.p (.int .i64 n.cp)]
def Kg:List Int->Int->List Int
 | [],x=>[x]
 | y::r,x=>if x<y then x::y::r else y::Kg r x
theorem Aje(l:List Int)(x:Int):(Kg l x).length=l.length+1:=by
 induction l with
 | nil=>rfl
 | cons y r ih=>unfold Kg;split<;>simp[ih]
theorem SQ(l:List Int)(x z:Int):z∈Kg l x↔z=x∨z∈l:=by
 induction l with
 | nil=>simp[Kg]
 | cons y r ih=>
   unfold Kg;split
   . simp
   . simp only[AE,ih];constructor<;>(rintro (h | h | h)<;>simp[h])
theorem Ajf(l:List Int)(x:Int)(h:l.Pairwise (· < ·))(hx:x∉l):(Kg l x).Pairwise (· < ·):=by
 induction l with
 | nil=>simp[Kg]
 | cons y r ih=>
   rw[BH] at h;unfold Kg;split
   . rename_i h1;rw[BH];refine ⟨λ z hz=>?_,BH.2 h⟩;rcases AE.1 hz with rfl | hz
     . exact h1
     . have:=h.1 z hz;omega
   . rename_i h1;have Dn:x≠y:=λ e=>hx (by simp[e]);rw[BH];refine ⟨λ z hz=>?_,ih h.2 (λ hm=>hx (Br _ hm))⟩;rcases (SQ r x z).1 hz with rfl | hz
     . omega
     . exact h.1 z hz
theorem getD_eq{α:Type}{l:List α}{k:Nat}{x:α}(h:k<l.length):l.getD k x=l[k]:=by simp[List.getD,h]
theorem Hj(l:List Bool)(i:Nat)(h:i<l.length):(CW l).getD i []=[.bool (l.getD i false)]:=by simp[CW,List.getD,h]
theorem Cr{α:Type}(l:List α)(i:Nat)(x:α)(h:i<l.length):l.take (i+1)=l.take i++[l.getD i x]:=by
 rw[BM,List.getD,Ax h];rfl
theorem Od(l:List Int)(i:Nat):(BT l).take i=BT (l.take i):=by simp[BT,Bu]
theorem Cs{n:Nat}(h:n<10000000):IntKind.i64.wrap ((n:Int)+1)=((n+1:Nat):Int):=Cf n (by omega)
theorem Vn{α:Type}{l:List α}{k:Nat}{x:α}(h:k<l.length):l.getD k x=l[k]:=by simp[List.getD,h]
theorem ET{α:Type}(l:List α)(v:Nat)(x d:α)(w:Nat)(hv:v<l.length):(l.set v x).getD w d=if w=v then x else l.getD w d:=by
 simp only[List.getD,BN];by_cases h:w=v
 . subst h;simp[hv]
 . rw[if_neg (Bj h),if_neg h]
theorem getD_map'{α β:Type}(f:α->β)(l:List α)(i:Nat)(x:α)(y:β)(h:i<l.length):(l.map f).getD i y=f (l.getD i x):=by simp[List.getD,h]
theorem Aim:∀(a b:List Int),a.Nodup->(∀x∈a,x∈b)->a.length<=b.length
 | [],_,_,_=>by simp
 | x::a,b,hn,hs=>by
   rw[List.nodup_cons] at hn;have hx:=hs x (by simp);have h1:=Aim a (b.erase x) hn.2 (λ y hy=>(List.mem_erase_of_ne (λ e=>hn.1 (by rw[<-e];exact hy))).2 (hs y (by simp[hy])));rw[List.length_erase_of_mem hx] at h1;have:=List.length_pos_of_mem hx;simp only[Aq];omega
theorem Amw(n:Int)(h0:0<=n)(h1:n<4294967296):((BitVec.ofInt 64 n&&& BitVec.ofInt 64 4294967295).toNat:Int)=n:=by
 obtain ⟨m,rfl⟩:=Int.eq_ofNat_of_zero_le h0;have h2:m<4294967296:=by omega
 rw[BitVec.toNat_and];have e1:(BitVec.ofInt 64 (m:Int)).toNat=m:=by
   simp only[BitVec.toNat_ofInt];omega
 have e2:(BitVec.ofInt 64 4294967295).toNat=2 ^ 32 - 1:=by decide
 rw[e1,e2,Nat.and_two_pow_sub_one_eq_mod];omega
theorem UL(n:Int)(h0:0<=n)(h1:n<4294967296):n.fdiv 4294967296=0:=by
 rw[Int.fdiv_eq_ediv_of_nonneg _ (by omega)];omega
theorem Uz(n:Int)(h0:0<=n)(h1:n<4294967296):IntKind.u64.wrap n=n:=by
 simp[IntKind.wrap,IntKind.bits,IntKind.signed];omega
theorem Aiv(n:Int)(h0:0<=n)(h1:n<4294967296):
   BV prog 163 [.p (.int .u64 1),.p (.int .u64 n)] [] λ h d=>h=[]/\d= .De [.p (.int .u64 0),.p (.int .u64 n)]:=by
 refine BX func163 rfl Aew (by simp[Tryz.f163]) ?_;simp only[go_sem,h0,h1];all_goals (try refine BU ?_)
 have pw:(2:Int) ^ min 32 64=4294967296:=by decide
 have w0:=Uz 0 (by omega) (by omega);have w1:=Uz 1 (by omega) (by omega);have a1:=Amw 1 (by omega) (by omega);have a0:=Amw 0 (by omega) (by omega);have an:=Amw n h0 h1
 repeat erw [an]
 repeat erw [a1]
 simp only[pw,UL n h0 h1,UL 1 (by omega) (by omega),UL 0 (by omega) (by omega),Uz n h0 h1,w0,w1,Int.zero_mul,Int.mul_zero,Int.zero_add,Int.add_zero,Int.one_mul]
 repeat erw [a0]
 simp only[pw,UL n h0 h1,UL 1 (by omega) (by omega),UL 0 (by omega) (by omega),Uz n h0 h1,w0,w1,Int.zero_mul,Int.mul_zero,Int.zero_add,Int.add_zero,Int.one_mul];simp only[go_sem]
theorem Asb(n:Int)(h0:0<=n)(h1:n<4294967296):
   BV prog 133 [.p (.int .u64 1),.p (.int .u64 n)] [] λ h d=>h=[]/\d= .De [.p (.int .u64 0),.p (.int .u64 n)]:=by
 refine BX func133 rfl Afa (by simp[Tryz.f133]) ?_;simp only[go_sem,h0,h1];refine Cq ((Aiv n h0 h1)) ?_;simp only[go_sem];all_goals (try refine BU ?_)
 all_goals (try simp only[go_sem])
structure Cp where
 bl:List EH
 nx:List (List Int)
 sp:List CX
 cq:Int
 ca:Int
 cd:Int
 cp:Int
 mb:List (List UInt8×Int)
 ms:List (List UInt8×Int)
 ba:List Int
 sl:Int
 pl:List (Int×Int)
 cf:Bool
def encR(l:List (List Int)):List (List (List Pd)):=l.map BT
def Il(l:List (Int×Int)):List (List Pd):=l.map λ p=>[.int .i64 p.1,.int .i64 p.2]
theorem H6(l:List (List Int)):(encR l).length=l.length:=by simp[encR]
theorem EE(l:List (Int×Int)):(Il l).length=l.length:=by simp[Il]
theorem Mq(l:List (List Int))(i:Nat):(encR l).getD i []=BT (l.getD i []):=by
 unfold encR;by_cases h:i<l.length
 . simp[List.getD,h]
 . simp[List.getD,h,BT]
theorem Ag3(l:List (List Int)):encR l++[[]]=encR (l++[[]]):=by simp[encR,BT]
theorem YX(l:List (List Int))(i:Nat)(r:List Int):encR (l.set i r)=(encR l).set i (BT r):=by simp[encR,BR]
theorem Ag4(l:List (Int×Int))(p:Int×Int):Il (l++[p])=Il l++[[.int .i64 p.1,.int .i64 p.2]]:=by simp[Il]
def Cp.box(b:Cp):List D:=[.ref 1000001 0 b.bl.length b.bl.length,.Dk 1000002 b.nx.length,.ref 1000003 0 b.sp.length b.sp.length,.cl [],.p (.int .i64 b.cq),.p (.int .i64 b.ca),.p (.int .i64 b.cd),.p (.int .i64 b.cp),
 .mv 1000004,.mv 1000005,.ref 1000006 0 b.ba.length b.ba.length,.p (.int .i64 b.sl),.ref 1000007 0 b.pl.length b.pl.length,.p (.bool b.cf)]
def Cp.h(b:Cp)(k:Nat):Hp:=[(1000000,.box b.box),(1000001,.arr 76 3 (C0 b.bl)),(1000002,.Dj 22 3 1 k (encR b.nx) none),(1000003,.arr 68 6 (CY b.sp)),
 (1000004,.mp (JS b.mb)),(1000005,.mp (JS b.ms)),(1000006,.arr 3 1 (BT b.ba)),(1000007,.arr 120 2 (Il b.pl))]
theorem Cp.Fw(b:Cp)(k:Nat):b.h k=[(1000000,.box [.ref 1000001 0 b.bl.length b.bl.length,.Dk 1000002 b.nx.length,.ref 1000003 0 b.sp.length b.sp.length,.cl [],.p (.int .i64 b.cq),.p (.int .i64 b.ca),.p (.int .i64 b.cd),.p (.int .i64 b.cp),
 .mv 1000004,.mv 1000005,.ref 1000006 0 b.ba.length b.ba.length,.p (.int .i64 b.sl),.ref 1000007 0 b.pl.length b.pl.length,.p (.bool b.cf)]),(1000001,.arr 76 3 (C0 b.bl)),(1000002,.Dj 22 3 1 k (encR b.nx) none),(1000003,.arr 68 6 (CY b.sp)),
 (1000004,.mp (JS b.mb)),(1000005,.mp (JS b.ms)),(1000006,.arr 3 1 (BT b.ba)),(1000007,.arr 120 2 (Il b.pl))]:=rfl
def Cp.Ic(b:Cp)(x:List UInt8):Bool:=(DJ b.mb x).isSome||(DJ b.ms x).isSome
theorem H0(b:Cp)(k:Nat)(x:List UInt8):BV prog 141 [.ptr 1000000 0,.p (.str x)] (b.h k) λ h r=>h=b.h k/\r= .p (.bool (b.Ic x)):=by
 refine BX func141 rfl Af6 (by simp[Tryz.f141]) ?_;rw[Cp.Fw b k];simp only[go_sem,KK.fit,DE,DQ,l9];cases c:(DJ b.mb x).isSome
 . simp only[go_sem,c];try simp[Cp.Ic,c]
 . simp only[go_sem,c];try simp[Cp.Ic,c]
def Cp.Em(b:Cp)(d:Dc):Int×Cp:=
 if b.Ic (d.names.getD 0 [])=true then (8,b) else if b.bl.length=24 then (14,b) else
   (0,{b with mb:=HC b.mb (d.names.getD 0 []) b.bl.length,bl:=b.bl++[⟨d.names.getD 0 [],d.B2.getD 0 0,d.B2.getD 1 0⟩],nx:=b.nx++[[]]})
theorem Amr(b:Cp)(k:Nat)(d:Dc)(h1:1<=d.names.length)(h2:2<=d.B2.length)(hb:b.bl.length<=24)(hn:b.nx.length<=24):
   BV prog 109 [.ptr 1000000 0,d.d] (b.h k) λ h r=>∃k',h=(b.Em d).2.h k'/\r= .p (.int .i64 (b.Em d).1):=by
 have e1:=DW d.names 0 (by omega);have e2:=Cg d.B2 0 (by omega);have e3:=Cg d.B2 1 (by omega);refine BX func109 rfl Aft (by simp[Tryz.f109]) ?_;rw[Cp.Fw b k];unfold Dc.d;simp only[go_sem,B1,e1];refine ⟨by omega,?_⟩;refine Cq (H0 b k _) ?_;cases c:b.Ic (d.names.getD 0 []);rotate_left
 . simp only[go_sem,Cp.Fw b k,c];have hv:b.Em d=(8,b):=by unfold Cp.Em;rw[if_pos c]
   rw[hv];exact ⟨k,rfl,rfl⟩
 cases c2:decide ((b.bl.length:Int)=24);rotate_left
 . simp only[go_sem,Cp.Fw b k,c,c2,Ce];have c3:b.bl.length=24:=by have:=Ad c2;omega
   have hv:b.Em d=(14,b):=by unfold Cp.Em;rw[c,if_neg AI,if_pos c3]
   rw[hv];exact ⟨k,rfl,rfl⟩
 have c3:¬b.bl.length=24:=by have:=Ae c2;omega
 simp only[go_sem,Cp.Fw b k,c,c2,Ce];refine Di [(1000000,.box b.box),(3,.box [.p (.int .i64 d.word),.p (.int .i64 d.line),.p (.sl (CD d.names)),.p (.sl (BT d.B2))]),(1000001,.arr 76 3 (C0 b.bl))] mixed (p:=[(0,0),(1,0),(2,0),(3,0),(4,0),(5,0),(6,0),(7,0),(8,0),(9,0),(10,0),(11,0),(12,0),(13,0),(14,3)]) (by kernel_rfl) (by simp[C5,get,Cp.box]) ?_;unfold Cp.box;simp only[go_sem,B1,e1,Ce,KK.fit,DE,SE,Pd.flat];refine ⟨by omega,?_⟩;refine Di [(1000000,.box b.box),(3,.box [.p (.int .i64 d.word),.p (.int .i64 d.line),.p (.sl (CD d.names)),.p (.sl (BT d.B2))])] mixed (p:=[(0,0),(1,0),(2,0),(3,0),(4,0),(5,0),(6,0),(7,0),(8,0),(9,0),(10,0),(11,0),(12,0),(13,0),(14,0),(15,0),(16,0),(17,0),(18,0),(19,1),(20,2),(21,0),(22,0),(23,0),(24,3)]) (by kernel_rfl) (by simp[C5,get,Cp.box]) ?_;unfold Cp.box;simp only[go_sem,B1,e1,BS,e2,e3,Ce];refine ⟨by omega,by omega,by omega,⟨EN _ _ rfl,by omega,by omega⟩,?_⟩;refine Ani rfl Ahm Anu rfl rfl ?_;simp only[go_sem];refine Ahb rfl rfl rfl rfl Ahm Ahm Anu rfl rfl (H6 _).symm rfl rfl (by omega) (by omega) ?_;simp only[go_sem];have hv:b.Em d=(0,{b with mb:=HC b.mb (d.names.getD 0 []) b.bl.length,bl:=b.bl++[⟨d.names.getD 0 [],d.B2.getD 0 0,d.B2.getD 1 0⟩],nx:=b.nx++[[]]}):=by
   unfold Cp.Em;rw[c,if_neg AI,if_neg c3]
 rw[hv];refine ⟨k+1,?_,rfl⟩;simp only[Cp.Fw,VB,Ag3,At,Aq,Az,A0,Ce]
def Ae1(l:List Int)(x:Int):Int:=if x∈l then ((l.idxOf x:Nat):Int) else -1
theorem Yu{x:Int}:∀(l:List Int) (i:Nat),i<l.length->l.getD i 0=x->x∉l.take i->l.idxOf x=i
 | [],i,h,_,_=>by simp at h
 | y::r,0,_,h,_=>by simp at h;subst h;simp
 | y::r,i+1,h,h1,h2=>by
   simp only[List.take_succ_cons,AE,not_or] at h2;have:=Yu r i (by simpa using h) (by simpa [List.getD] using h1) h2.2;rw[List.idxOf_cons,this];have:(y==x)=false:=by simpa using λ e:y=x=>h2.1 e.symm
   rw[this];rfl
theorem Aoz{l:List Int}{x:Int}{i:Nat}(hi:i<l.length)(hx:l.getD i 0=x)(hn:x∉l.take i):Ae1 l x=(i:Int):=by
 have h1:x∈l:=by rw[<-hx];exact CJ l i 0 hi
 unfold Ae1;rw[if_pos h1,Yu l i hi hx hn]
theorem Ys(l:List Int)(x:Int):decide (0<=Ae1 l x)=decide (x∈l):=by
 unfold Ae1;by_cases h:x∈l
 . rw[if_pos h];simp[h]
 . rw[if_neg h];simp[h]
theorem Adu(l:List Int)(x:Int)(hl:l.length<=10000000):
   BV prog 171 [.ref 1000000 0 l.length l.length,.p (.int .i64 x)] [(1000000,.arr 3 1 (BT l))] λ h r=>h=[(1000000,.arr 3 1 (BT l))]/\r= .p (.int .i64 (Ae1 l x)):=by
 refine BX func171 rfl Vv (by simp[Tryz.f171]) ?_;simp only[go_sem,BS];refine B3 (λ i=>⟨[(0,.ref 1000000 0 l.length l.length),(1,.p (.int .i64 x)),(4,.p (.int .i64 0)),(7,.p (.int .i64 l.length)),(8,.p (.int .i64 (i:Nat)))],[(1000000,.arr 3 1 (BT l))],19⟩) (λ i=>i<=l.length/\x∉l.take i) (λ i=>l.length - i) 0 ⟨AG _,by simp⟩ (Wk.forget (by simp[ZF,BT])) ?_;rintro i n ⟨hi,he⟩ ih;simp only[go_sem,BS];refine Cv (λ h2=>?_) (λ h2=>?_)
 . have Cj:i<l.length:=by simp at h2;omega
   have hw:=Cf i (by omega);have hg:=Cg l i Cj;have DH:(0:Int)<=(i:Int)/\(i:Int)<(l.length:Int):=by omega
   have Ij:=λ h=>Aoz (x:=x) Cj h he;have hx:l[i]?=some (l.getD i 0):=by simp[List.getD,Cj]
   generalize l.getD i 0=y at*;simp only[go_sem,BS,Ab,hg,DH];cases hv:decide (x=y)
   . simp only[go_sem,hv,hw];refine ih (i+1) _ ⟨Cj,?_⟩ (by omega) ?_
     . rw[BM,hx];have:¬x=y:=Ae hv;simp[he,this]
     . (refine Wk.forget ?_;simp[ZF,BT];done)
   . simp only[go_sem,hv];rw[Ij (Ad hv).symm];try simp
 . simp only[go_sem];have:i=l.length:=by simp at h2;omega
   subst this;rw[Aw] at he;simp[Ae1,he]
theorem W8(l:List Int)(x:Int)(hl:l.length<=10000000):
   BV prog 142 [.ref 1000000 0 l.length l.length,.p (.int .i64 x)] [(1000000,.arr 3 1 (BT l))] λ h r=>h=[(1000000,.arr 3 1 (BT l))]/\r= .p (.bool (decide (x∈l))):=by
 refine BX func142 rfl Af5 (by simp[Tryz.f142]) ?_;simp only[go_sem,BS];refine Om rfl rfl ?_;simp only[go_sem,Je];refine TO (Adu l x hl) ?_;rintro h' r ⟨rfl,rfl⟩;simp only[go_sem,Ys]
theorem W7(rows:List (List Int))(i k:Nat)(x:Int)(hi:i<rows.length)(hl:(rows.getD i []).length<=10000000):
   BV prog 142 [.nr 1000000 i (rows.getD i []).length k,.p (.int .i64 x)] [(1000000,.Dj 22 3 1 k (encR rows) none)] λ h r=>h=[(1000000,.Dj 22 3 1 k (encR rows) none)]/\r= .p (.bool (decide (x∈rows.getD i []))):=by
 have hg:(encR rows)[i]?=some (BT (rows.getD i [])):=by simp[encR,List.getD,hi]
 refine (TT (ps:=[.int .i64 x]) hg (BS _).symm (W8 (rows.getD i []) x hl) (R':=λ es r=>es=BT (rows.getD i [])/\r= .p (.bool (decide (x∈rows.getD i [])))) ?_).mono ?_
 . rintro h' r ⟨rfl,rfl⟩;exact ⟨_,rfl,BS _,.inr ⟨_,rfl⟩,rfl,rfl⟩
 . rintro h' r ⟨Nf,rfl,_,rfl,rfl⟩;refine ⟨?_,rfl⟩
   congr 4
   apply List.ext_getElem?;intro j;rw[BN];split
   . rename_i e;subst e;rw[hg];simp[encR,hi]
   . rfl
def Cp.EL(b:Cp)(x y:List UInt8):Int×Cp:=
 match DJ b.mb x,DJ b.mb y with
 | some i,some j=>if i=j then (10,b) else if j∈b.nx.getD i.toNat [] then (11,b) else if (b.nx.getD i.toNat []).length=4 then (14,b) else
     (0,{b with nx:=b.nx.set i.toNat (b.nx.getD i.toNat []++[j])})
 | _,_=>(9,b)
theorem Aos(b:Cp)(k:Nat)(x y:List UInt8)(hm:∀x i,DJ b.mb x=some i->∃n:Nat,i=(n:Int)/\n<b.nx.length)(hr:∀i,(b.nx.getD i []).length<=24):
   BV prog 110 [.ptr 1000000 0,.p (.str x),.p (.str y)] (b.h k) λ h r=>∃k',h=(b.EL x y).2.h k'/\r= .p (.int .i64 (b.EL x y).1):=by
 refine BX func110 rfl Afs (by simp[Tryz.f110]) ?_;rw[Cp.Fw b k];cases c1:DJ b.mb x with
 | none=>
   simp only[go_sem,KK.fit,DE,DQ,EC,c1,Ba,Option.getD_none];have hv:b.EL x y=(9,b):=by unfold Cp.EL;rw[c1]
   rw[hv];exact ⟨k,rfl,rfl⟩
 | some i=>
   cases c2:DJ b.mb y with
   | none=>
     simp only[go_sem,KK.fit,DE,DQ,EC,c1,c2,Ba,Option.getD_none];have hv:b.EL x y=(9,b):=by unfold Cp.EL;rw[c1,c2]
     rw[hv];exact ⟨k,rfl,rfl⟩
   | some j=>
     obtain ⟨n,rfl,hn⟩:=hm x i c1;cases c3:decide ((n:Int)=j);rotate_left
     . simp only[go_sem,KK.fit,DE,DQ,EC,c1,c2,c3];have c3':(n:Int)=j:=Ad c3;have hv:b.EL x y=(10,b):=by unfold Cp.EL;rw[c1,c2];simp only;rw[if_pos c3']
       rw[hv];exact ⟨k,rfl,rfl⟩
     have c3':¬(n:Int)=j:=Ae c3;have hn0:(0:Int)<=(n:Int)/\(n:Int)<(b.nx.length:Int):=by omega
     simp only[go_sem,KK.fit,DE,DQ,EC,c1,c2,c3,hn0,Ab,Mq,BS,H6];refine Cq (W7 b.nx n k j hn (by have:=hr n;omega)) ?_;cases c4:decide (j∈b.nx.getD n []);rotate_left
     . simp only[go_sem,c4];have ZS:j∈b.nx.getD n []:=Ad c4;have hv:b.EL x y=(11,b):=by unfold Cp.EL;rw[c1,c2];simp only[Ab];rw[if_neg c3',if_pos ZS]
       rw[hv];exact ⟨k,rfl,rfl⟩
     have ZS:¬j∈b.nx.getD n []:=Ae c4;have hrn:=hr n;cases c5:decide (((b.nx.getD n []).length:Int)=4);rotate_left
     . simp only[go_sem,c4,c5,hn0,Ab,Mq,BS,H6];have c5':(b.nx.getD n []).length=4:=by have:=Ad c5;omega
       have hv:b.EL x y=(14,b):=by unfold Cp.EL;rw[c1,c2];simp only[Ab];rw[if_neg c3',if_neg ZS,if_pos c5']
       rw[hv];exact ⟨k,rfl,rfl⟩
     have c5':¬(b.nx.getD n []).length=4:=by have:=Ae c5;omega
     simp only[go_sem,c4,c5,hn0,Ab,Mq,BS,H6];refine Di [(1000000,.box b.box)] mixed (p:=[(0,0),(1,0),(2,0),(3,0),(4,0),(5,0),(6,0),(7,0),(8,0),(9,0),(10,0),(11,0),(12,0),(14,0),(15,1),(13,2),(16,2),(17,0),(18,3)]) (by kernel_rfl) (by simp[C5,get,Cp.box]) ?_;unfold Cp.box;simp only[go_sem,hn0,Ab,Mq,BS,H6];refine ⟨⟨EN _ _ rfl,hn,by omega,by omega⟩,?_⟩;have hv:b.EL x y=(0,{b with nx:=b.nx.set n (b.nx.getD n []++[j])}):=by
       unfold Cp.EL;rw[c1,c2];simp only[Ab];rw[if_neg c3',if_neg ZS,if_neg c5']
     rw[hv];refine ⟨k+1+1,?_,rfl⟩;simp only[Cp.Fw,YX,Fo,List.length_set]
def Cp.Es(b:Cp)(d:Dc):Int×Cp:=
 if b.Ic (d.names.getD 0 [])=true then (8,b) else match DJ b.mb (d.names.getD 1 []),DJ b.mb (d.names.getD 2 []) with
 | some i,some j=>if decide (d.B2.getD 0 0<1)=true then (12,b) else if decide (4<d.B2.getD 0 0)=true then (12,b) else if b.sp.length=6 then (14,b) else
     (0,{b with ms:=HC b.ms (d.names.getD 0 []) b.sp.length,sp:=b.sp++[⟨d.names.getD 0 [],decide (d.word=4),i,j,d.B2.getD 0 0,0⟩],ba:=b.ba++[b.sl],sl:=b.sl+d.B2.getD 0 0})
 | _,_=>(9,b)
theorem Anw(b:Cp)(k:Nat)(d:Dc)(h1:3<=d.names.length)(h2:1<=d.B2.length)(hb:b.sp.length<=6)(hba:b.ba.length<=6)(hs:0<=b.sl/\b.sl<=1000):
   BV prog 113 [.ptr 1000000 0,d.d] (b.h k) λ h r=>∃k',h=(b.Es d).2.h k'/\r= .p (.int .i64 (b.Es d).1):=by
 have e1:=DW d.names 0 (by omega);have e4:=DW d.names 1 (by omega);have e5:=DW d.names 2 (by omega);have e2:=Cg d.B2 0 (by omega);refine BX func113 rfl Afp (by simp[Tryz.f113]) ?_;rw[Cp.Fw b k];unfold Dc.d;simp only[go_sem];cases c:b.Ic (d.names.getD 0 []);rotate_left
 . cases c1:DJ b.mb (d.names.getD 1 [])<;>cases c2:DJ b.mb (d.names.getD 2 [])<;>
   . skip
     refine Di [(1000000,.box b.box),(3,.box [.p (.int .i64 d.word),.p (.int .i64 d.line),.p (.sl (CD d.names)),.p (.sl (BT d.B2))]),(1000004,.mp (JS b.mb))] mixed (p:=[(0,0),(1,0),(2,0),(3,0),(4,0),(5,0),(6,0),(7,0),(8,0),(9,0),(10,0),(11,0),(12,0),(13,0)]) (by kernel_rfl) (by simp[C5,get,Cp.box]) ?_;unfold Cp.box;simp only[go_sem,B1,e1,e4,e5,KK.fit,DE,DQ,EC,c1,c2,Ba];refine ⟨by omega,?_⟩;refine Di [(1000000,.box b.box),(3,.box [.p (.int .i64 d.word),.p (.int .i64 d.line),.p (.sl (CD d.names)),.p (.sl (BT d.B2))]),(1000004,.mp (JS b.mb))] mixed (p:=[(0,0),(1,0),(2,0),(3,0),(4,0),(5,0),(6,0),(7,0),(8,0),(9,0),(10,0),(11,0),(12,0),(13,0)]) (by kernel_rfl) (by simp[C5,get,Cp.box]) ?_;unfold Cp.box;simp only[go_sem,B1,e1,e4,e5,KK.fit,DE,DQ,EC,c1,c2,Ba];refine ⟨by omega,by omega,?_⟩;refine Cq (H0 b k _) ?_;simp only[go_sem,Cp.Fw b k,c];have hv:b.Es d=(8,b):=by unfold Cp.Es;simp only[c];try simp
     rw[hv];exact ⟨k,rfl,rfl⟩
 cases c1:DJ b.mb (d.names.getD 1 []) with
 | none=>
   cases c2:DJ b.mb (d.names.getD 2 [])<;>
   . skip
     refine Di [(1000000,.box b.box),(3,.box [.p (.int .i64 d.word),.p (.int .i64 d.line),.p (.sl (CD d.names)),.p (.sl (BT d.B2))]),(1000004,.mp (JS b.mb))] mixed (p:=[(0,0),(1,0),(2,0),(3,0),(4,0),(5,0),(6,0),(7,0),(8,0),(9,0),(10,0),(11,0),(12,0),(13,0)]) (by kernel_rfl) (by simp[C5,get,Cp.box]) ?_;unfold Cp.box;simp only[go_sem,B1,e1,e4,e5,KK.fit,DE,DQ,EC,c1,c2,Ba];refine ⟨by omega,?_⟩;refine Di [(1000000,.box b.box),(3,.box [.p (.int .i64 d.word),.p (.int .i64 d.line),.p (.sl (CD d.names)),.p (.sl (BT d.B2))]),(1000004,.mp (JS b.mb))] mixed (p:=[(0,0),(1,0),(2,0),(3,0),(4,0),(5,0),(6,0),(7,0),(8,0),(9,0),(10,0),(11,0),(12,0),(13,0)]) (by kernel_rfl) (by simp[C5,get,Cp.box]) ?_;unfold Cp.box;simp only[go_sem,B1,e1,e4,e5,KK.fit,DE,DQ,EC,c1,c2,Ba];refine ⟨by omega,by omega,?_⟩;refine Cq (H0 b k _) ?_;simp only[go_sem,Cp.Fw b k,c];have hv:b.Es d=(9,b):=by unfold Cp.Es;simp only[c,c1];try simp
     rw[hv];exact ⟨k,rfl,rfl⟩
 | some i=>
   cases c2:DJ b.mb (d.names.getD 2 []) with
   | none=>
     refine Di [(1000000,.box b.box),(3,.box [.p (.int .i64 d.word),.p (.int .i64 d.line),.p (.sl (CD d.names)),.p (.sl (BT d.B2))]),(1000004,.mp (JS b.mb))] mixed (p:=[(0,0),(1,0),(2,0),(3,0),(4,0),(5,0),(6,0),(7,0),(8,0),(9,0),(10,0),(11,0),(12,0),(13,0)]) (by kernel_rfl) (by simp[C5,get,Cp.box]) ?_;unfold Cp.box;simp only[go_sem,B1,e1,e4,e5,KK.fit,DE,DQ,EC,c1,c2,Ba];refine ⟨by omega,?_⟩;refine Di [(1000000,.box b.box),(3,.box [.p (.int .i64 d.word),.p (.int .i64 d.line),.p (.sl (CD d.names)),.p (.sl (BT d.B2))]),(1000004,.mp (JS b.mb))] mixed (p:=[(0,0),(1,0),(2,0),(3,0),(4,0),(5,0),(6,0),(7,0),(8,0),(9,0),(10,0),(11,0),(12,0),(13,0)]) (by kernel_rfl) (by simp[C5,get,Cp.box]) ?_;unfold Cp.box;simp only[go_sem,B1,e1,e4,e5,KK.fit,DE,DQ,EC,c1,c2,Ba];refine ⟨by omega,by omega,?_⟩;refine Cq (H0 b k _) ?_;simp only[go_sem,Cp.Fw b k,c];have hv:b.Es d=(9,b):=by unfold Cp.Es;simp only[c,c1,c2];try simp
     rw[hv];exact ⟨k,rfl,rfl⟩
   | some j=>
     cases c3:decide (d.B2.getD 0 0<1);rotate_left
     . skip
       refine Di [(1000000,.box b.box),(3,.box [.p (.int .i64 d.word),.p (.int .i64 d.line),.p (.sl (CD d.names)),.p (.sl (BT d.B2))]),(1000004,.mp (JS b.mb))] mixed (p:=[(0,0),(1,0),(2,0),(3,0),(4,0),(5,0),(6,0),(7,0),(8,0),(9,0),(10,0),(11,0),(12,0),(13,0)]) (by kernel_rfl) (by simp[C5,get,Cp.box]) ?_;unfold Cp.box;simp only[go_sem,B1,e1,e4,e5,KK.fit,DE,DQ,EC,c1,c2];refine ⟨by omega,?_⟩;refine Di [(1000000,.box b.box),(3,.box [.p (.int .i64 d.word),.p (.int .i64 d.line),.p (.sl (CD d.names)),.p (.sl (BT d.B2))]),(1000004,.mp (JS b.mb))] mixed (p:=[(0,0),(1,0),(2,0),(3,0),(4,0),(5,0),(6,0),(7,0),(8,0),(9,0),(10,0),(11,0),(12,0),(13,0)]) (by kernel_rfl) (by simp[C5,get,Cp.box]) ?_;unfold Cp.box;simp only[go_sem,B1,e1,e4,e5,KK.fit,DE,DQ,EC,c1,c2];refine ⟨by omega,by omega,?_⟩;refine Cq (H0 b k _) ?_;simp only[go_sem,Cp.Fw b k,c,BS,e2,c3];refine ⟨by omega,?_⟩;have hv:b.Es d=(12,b):=by unfold Cp.Es;simp only[c,c1,c2,c3];try simp
       rw[hv];exact ⟨k,rfl,rfl⟩
     cases c4:decide (4<d.B2.getD 0 0);rotate_left
     . skip
       refine Di [(1000000,.box b.box),(3,.box [.p (.int .i64 d.word),.p (.int .i64 d.line),.p (.sl (CD d.names)),.p (.sl (BT d.B2))]),(1000004,.mp (JS b.mb))] mixed (p:=[(0,0),(1,0),(2,0),(3,0),(4,0),(5,0),(6,0),(7,0),(8,0),(9,0),(10,0),(11,0),(12,0),(13,0)]) (by kernel_rfl) (by simp[C5,get,Cp.box]) ?_;unfold Cp.box;simp only[go_sem,B1,e1,e4,e5,KK.fit,DE,DQ,EC,c1,c2];refine ⟨by omega,?_⟩;refine Di [(1000000,.box b.box),(3,.box [.p (.int .i64 d.word),.p (.int .i64 d.line),.p (.sl (CD d.names)),.p (.sl (BT d.B2))]),(1000004,.mp (JS b.mb))] mixed (p:=[(0,0),(1,0),(2,0),(3,0),(4,0),(5,0),(6,0),(7,0),(8,0),(9,0),(10,0),(11,0),(12,0),(13,0)]) (by kernel_rfl) (by simp[C5,get,Cp.box]) ?_;unfold Cp.box;simp only[go_sem,B1,e1,e4,e5,KK.fit,DE,DQ,EC,c1,c2];refine ⟨by omega,by omega,?_⟩;refine Cq (H0 b k _) ?_;simp only[go_sem,Cp.Fw b k,c,BS,e2,c3,c4];refine ⟨by omega,by omega,?_⟩;have hv:b.Es d=(12,b):=by unfold Cp.Es;simp only[c,c1,c2,c3,c4];try simp
       rw[hv];exact ⟨k,rfl,rfl⟩
     have c3':¬d.B2.getD 0 0<1:=Ae c3;have ZS:¬4<d.B2.getD 0 0:=Ae c4;cases c5:decide ((b.sp.length:Int)=6);rotate_left
     . skip
       refine Di [(1000000,.box b.box),(3,.box [.p (.int .i64 d.word),.p (.int .i64 d.line),.p (.sl (CD d.names)),.p (.sl (BT d.B2))]),(1000004,.mp (JS b.mb))] mixed (p:=[(0,0),(1,0),(2,0),(3,0),(4,0),(5,0),(6,0),(7,0),(8,0),(9,0),(10,0),(11,0),(12,0),(13,0)]) (by kernel_rfl) (by simp[C5,get,Cp.box]) ?_;unfold Cp.box;simp only[go_sem,B1,e1,e4,e5,KK.fit,DE,DQ,EC,c1,c2];refine ⟨by omega,?_⟩;refine Di [(1000000,.box b.box),(3,.box [.p (.int .i64 d.word),.p (.int .i64 d.line),.p (.sl (CD d.names)),.p (.sl (BT d.B2))]),(1000004,.mp (JS b.mb))] mixed (p:=[(0,0),(1,0),(2,0),(3,0),(4,0),(5,0),(6,0),(7,0),(8,0),(9,0),(10,0),(11,0),(12,0),(13,0)]) (by kernel_rfl) (by simp[C5,get,Cp.box]) ?_;unfold Cp.box;simp only[go_sem,B1,e1,e4,e5,KK.fit,DE,DQ,EC,c1,c2];refine ⟨by omega,by omega,?_⟩;refine Cq (H0 b k _) ?_;simp only[go_sem,Cp.Fw b k,c,BS,e2,c3,c4,c5,Cm];refine ⟨by omega,by omega,?_⟩;have c5':b.sp.length=6:=by have:=Ad c5;omega
       have hv:b.Es d=(14,b):=by unfold Cp.Es;simp only[c,c1,c2,c3,c4,c5'];try simp
       rw[hv];exact ⟨k,rfl,rfl⟩
     have c5':¬b.sp.length=6:=by have:=Ae c5;omega
     refine Di [(1000000,.box b.box),(3,.box [.p (.int .i64 d.word),.p (.int .i64 d.line),.p (.sl (CD d.names)),.p (.sl (BT d.B2))]),(1000004,.mp (JS b.mb))] mixed (p:=[(0,0),(1,0),(2,0),(3,0),(4,0),(5,0),(6,0),(7,0),(8,0),(9,0),(10,0),(11,0),(12,0),(13,0)]) (by kernel_rfl) (by simp[C5,get,Cp.box]) ?_;unfold Cp.box;simp only[go_sem,B1,e1,e4,e5,KK.fit,DE,DQ,EC,c1,c2];refine ⟨by omega,?_⟩;refine Di [(1000000,.box b.box),(3,.box [.p (.int .i64 d.word),.p (.int .i64 d.line),.p (.sl (CD d.names)),.p (.sl (BT d.B2))]),(1000004,.mp (JS b.mb))] mixed (p:=[(0,0),(1,0),(2,0),(3,0),(4,0),(5,0),(6,0),(7,0),(8,0),(9,0),(10,0),(11,0),(12,0),(13,0)]) (by kernel_rfl) (by simp[C5,get,Cp.box]) ?_;unfold Cp.box;simp only[go_sem,B1,e1,e4,e5,KK.fit,DE,DQ,EC,c1,c2];refine ⟨by omega,by omega,?_⟩;refine Cq (H0 b k _) ?_;simp only[go_sem,Cp.Fw b k,c,BS,e2,c3,c4,c5,Cm];refine ⟨by omega,by omega,?_⟩;refine Di [(1000000,.box b.box),(3,.box [.p (.int .i64 d.word),.p (.int .i64 d.line),.p (.sl (CD d.names)),.p (.sl (BT d.B2))]),(1000003,.arr 68 6 (CY b.sp))] mixed (p:=[(0,0),(1,0),(2,0),(3,0),(4,0),(5,0),(6,0),(7,0),(8,0),(9,0),(10,0),(11,0),(12,0),(13,0),(14,3)]) (by kernel_rfl) (by simp[C5,get,Cp.box]) ?_;unfold Cp.box;simp only[go_sem,B1,e1,Cm,KK.fit,DE,SE,Pd.flat];refine ⟨by omega,?_⟩;refine Di [(1000000,.box b.box),(3,.box [.p (.int .i64 d.word),.p (.int .i64 d.line),.p (.sl (CD d.names)),.p (.sl (BT d.B2))])] mixed (p:=[(0,0),(1,0),(2,0),(3,0),(4,0),(5,0),(6,0),(7,0),(8,0),(9,0),(10,0),(11,0),(12,0),(13,0),(14,0),(15,0),(16,0),(17,0),(18,0),(19,0),(20,1),(21,2),(22,0),(23,0),(24,0),(25,3)]) (by kernel_rfl) (by simp[C5,get,Cp.box]) ?_;unfold Cp.box;simp only[go_sem,B1,e1,BS,e2,Cm,At];refine ⟨by omega,by omega,⟨EN _ _ rfl,by omega,by omega⟩,?_⟩;refine Di [(1000000,.box (Cp.box {b with sp:=b.sp++[⟨d.names.getD 0 [],decide (d.word=4),i,j,d.B2.getD 0 0,0⟩]}))] mixed (p:=[(0,0),(1,0),(2,0),(3,0),(4,0),(5,0),(6,0),(7,0),(8,0),(9,1),(10,2),(11,0),(12,0),(13,3)]) (by kernel_rfl) (by simp[C5,get,Cp.box,Cm]) ?_;unfold Cp.box;simp only[go_sem,BS,At];refine ⟨⟨EN _ _ rfl,by omega,by omega⟩,?_⟩;have hw:IntKind.i64.wrap (b.sl+d.B2.getD 0 0)=b.sl+d.B2.getD 0 0:=by rw[BY]<;>omega
     refine Di [(1000000,.box (Cp.box {b with sp:=b.sp++[⟨d.names.getD 0 [],decide (d.word=4),i,j,d.B2.getD 0 0,0⟩],ba:=b.ba++[b.sl]})),(3,.box [.p (.int .i64 d.word),.p (.int .i64 d.line),.p (.sl (CD d.names)),.p (.sl (BT d.B2))])] mixed (p:=[(0,0),(1,0),(2,0),(3,0),(4,0),(5,0),(6,0),(7,0),(8,0),(9,0),(10,0),(11,3)]) (by kernel_rfl) (by simp[C5,get,Cp.box,Cm,BS]) ?_;unfold Cp.box;simp only[go_sem,BS,e2,hw,At];refine ⟨by omega,?_⟩;have hv:b.Es d=(0,{b with ms:=HC b.ms (d.names.getD 0 []) b.sp.length,sp:=b.sp++[⟨d.names.getD 0 [],decide (d.word=4),i,j,d.B2.getD 0 0,0⟩],ba:=b.ba++[b.sl],sl:=b.sl+d.B2.getD 0 0}):=by
       unfold Cp.Es;simp only[c,c1,c2,c3,c4,if_neg c5',AJ,A7]
     rw[hv];refine ⟨k,?_,rfl⟩;simp only[Cp.Fw,MQ,Fo,At,Aq,Az,A0]
def inV(n lo hi:Int):Bool:=decide (lo<=n)&&decide (n<=hi)
theorem MA(n lo hi:Int):BV prog 40 [.p (.int .i64 n),.p (.int .i64 lo),.p (.int .i64 hi)] [] λ h r=>h=[]/\r= .p (.bool (inV n lo hi)):=by
 refine BX func40 rfl YU (by simp[Tryz.f40]) ?_;cases c:decide (lo<=n)
 . simp only[go_sem,c];try simp[inV,c]
 . simp only[go_sem,c];try simp[inV,c]
def Ux(q a d p:Int):Bool:=inV q 1 8&&(inV a 0 4&&(inV d 0 3&&inV p 1 16))
theorem RZ(q a d p:Int):BV prog 41 [.agg [.p (.int .i64 q),.p (.int .i64 a),.p (.int .i64 d),.p (.int .i64 p)]] [] λ h r=>h=[]/\r= .p (.bool (Ux q a d p)):=by
 refine BX func41 rfl YT (by simp[Tryz.f41]) ?_;simp only[go_sem];refine Cq ((MA q 1 8)) ?_;cases c1:inV q 1 8
 . simp only[go_sem,c1];try simp[Ux,c1]
 simp only[go_sem,c1];refine Cq ((MA a 0 4)) ?_;cases c2:inV a 0 4
 . simp only[go_sem,c2];try simp[Ux,c1,c2]
 simp only[go_sem,c2];refine Cq ((MA d 0 3)) ?_;cases c3:inV d 0 3
 . simp only[go_sem,c3];try simp[Ux,c1,c2,c3]
 simp only[go_sem,c3];refine Cq ((MA p 1 16)) ?_;simp only[go_sem];try simp[Ux,c1,c2,c3]
def Cp.Dz(b:Cp)(d:Dc):Int×Cp:=
 if b.cf=true then (11,b) else if Ux (d.B2.getD 0 0) (d.B2.getD 1 0) (d.B2.getD 2 0) (d.B2.getD 3 0)=false then (19,b) else
   (0,{b with cq:=d.B2.getD 0 0,ca:=d.B2.getD 1 0,cd:=d.B2.getD 2 0,cp:=d.B2.getD 3 0,cf:=true})
theorem Agh(b:Cp)(k:Nat)(d:Dc)(h2:4<=d.B2.length):
   BV prog 112 [.ptr 1000000 0,d.d] (b.h k) λ h r=>∃k',h=(b.Dz d).2.h k'/\r= .p (.int .i64 (b.Dz d).1):=by
 have e0:=Cg d.B2 0 (by omega);have e1:=Cg d.B2 1 (by omega);have e2:=Cg d.B2 2 (by omega);have e3:=Cg d.B2 3 (by omega);refine BX func112 rfl Afq (by simp[Tryz.f112]) ?_;rw[Cp.Fw b k];unfold Dc.d;simp only[go_sem];refine Di [(3,.box [.p (.int .i64 d.word),.p (.int .i64 d.line),.p (.sl (CD d.names)),.p (.sl (BT d.B2))])] mixed (p:=[(0,0),(1,0),(2,0),(3,0),(4,0),(5,0),(6,0),(7,0),(8,0),(9,0),(10,0),(11,0),(12,0),(13,0),(14,0),(15,0),(16,0),(17,1),(18,3)]) (by kernel_rfl) (by simp[C5,get]) ?_;cases c:b.cf;rotate_left
 . simp only[go_sem,BS,e0,e1,e2,e3,c];refine ⟨by omega,by omega,by omega,by omega,?_⟩;have hv:b.Dz d=(11,b):=by unfold Cp.Dz;rw[if_pos c]
   rw[hv];refine ⟨k,?_,rfl⟩;rw[Cp.Fw,c]
 simp only[go_sem,BS,e0,e1,e2,e3,c];refine ⟨by omega,by omega,by omega,by omega,?_⟩;refine Cq ((RZ (d.B2.getD 0 0) (d.B2.getD 1 0) (d.B2.getD 2 0) (d.B2.getD 3 0))) ?_;cases c2:Ux (d.B2.getD 0 0) (d.B2.getD 1 0) (d.B2.getD 2 0) (d.B2.getD 3 0)
 . simp only[go_sem,c2];have hv:b.Dz d=(19,b):=by unfold Cp.Dz;rw[c,if_neg AI,if_pos c2]
   rw[hv];refine ⟨k,?_,rfl⟩;rw[Cp.Fw,c]
 simp only[go_sem,c2];have hv:b.Dz d=(0,{b with cq:=d.B2.getD 0 0,ca:=d.B2.getD 1 0,cd:=d.B2.getD 2 0,cp:=d.B2.getD 3 0,cf:=true}):=by unfold Cp.Dz;rw[c,if_neg AI,c2,if_neg (by simp)]
 rw[hv];exact ⟨k,rfl,rfl⟩
def Ae2(l:List (Int×Int))(x:Int×Int):Int:=if x∈l then ((l.idxOf x:Nat):Int) else -1
theorem Vb{x:Int×Int}:∀(l:List (Int×Int)) (i:Nat),i<l.length->l.getD i (0,0)=x->x∉l.take i->l.idxOf x=i
 | [],i,h,_,_=>by simp at h
 | y::r,0,_,h,_=>by simp at h;subst h;simp
 | y::r,i+1,h,h1,h2=>by
   simp only[List.take_succ_cons,AE,not_or] at h2;have:=Vb r i (by simpa using h) (by simpa [List.getD] using h1) h2.2;rw[List.idxOf_cons,this];have:(y==x)=false:=by simpa using λ e:y=x=>h2.1 e.symm
   rw[this];rfl
theorem Ap0{l:List (Int×Int)}{x:Int×Int}{i:Nat}(hi:i<l.length)(hx:l.getD i (0,0)=x)(hn:x∉l.take i):Ae2 l x=(i:Int):=by
 have h1:x∈l:=by rw[<-hx];exact CJ l i (0,0) hi
 unfold Ae2;rw[if_pos h1,Vb l i hi hx hn]
theorem Yt(l:List (Int×Int))(x:Int×Int):decide (0<=Ae2 l x)=decide (x∈l):=by
 unfold Ae2;by_cases h:x∈l
 . rw[if_pos h];simp[h]
 . rw[if_neg h];simp[h]
theorem Alx(l:List (Int×Int))(i:Nat)(h:i<l.length):(Il l).getD i []=[.int .i64 (l.getD i (0,0)).1,.int .i64 (l.getD i (0,0)).2]:=by simp[Il,List.getD,h]
theorem p8(l:List (Int×Int))(x:Int×Int)(hl:l.length<=10000000):
   BV prog 172 [.ref 1000000 0 l.length l.length,.agg [.p (.int .i64 x.1),.p (.int .i64 x.2)]] [(1000000,.arr 120 2 (Il l))] λ h r=>h=[(1000000,.arr 120 2 (Il l))]/\r= .p (.int .i64 (Ae2 l x)):=by
 refine BX func172 rfl Aes (by simp[Tryz.f172]) ?_;simp only[go_sem,EE];refine B3 (λ i=>⟨[(0,.ref 1000000 0 l.length l.length),(3,.ptr 3 0),(4,.p (.int .i64 0)),(7,.p (.int .i64 l.length)),(8,.p (.int .i64 (i:Nat)))],[(3,.box [.p (.int .i64 x.1),.p (.int .i64 x.2)]),(1000000,.arr 120 2 (Il l))],19⟩) (λ i=>i<=l.length/\x∉l.take i) (λ i=>l.length - i) 0 ⟨AG _,by simp⟩ (Wk.forget (by simp[ZF,Il])) ?_;rintro i n ⟨hi,he⟩ ih;simp only[go_sem,EE];refine Cv (λ h2=>?_) (λ h2=>?_)
 . have Cj:i<l.length:=by simp at h2;omega
   have hw:=Cf i (by omega);have hg:=Alx l i Cj;have DH:(0:Int)<=(i:Int)/\(i:Int)<(l.length:Int):=by omega
   have Ij:=λ h=>Ap0 (x:=x) Cj h he;have hx:l[i]?=some (l.getD i (0,0)):=by simp[List.getD,Cj]
   generalize l.getD i (0,0)=y at*;simp only[go_sem,EE,Ab,hg,DH];refine Di [(3,.box [.p (.int .i64 x.1),.p (.int .i64 x.2)]),(1000000,.arr 120 2 (Il l))] mixed (p:=[(0,0),(1,0),(2,0),(3,0),(4,0),(5,0)]) (by kernel_rfl) (by simp[C5,get]) ?_;cases h1:decide (x.1=y.1)
   . simp only[go_sem,EE,Ab,hg,DH,h1,hw];have Dn:¬x=y:=λ e=>(Ae h1) (by rw[e]);refine ih (i+1) _ ⟨Cj,by rw[BM,hx];simp[he,Dn]⟩ (by omega) ?_
     (refine Wk.forget ?_;simp[ZF,Il];done)
   cases h2:decide (x.2=y.2)
   . simp only[go_sem,EE,Ab,hg,DH,h1,h2,hw];have Dn:¬x=y:=λ e=>(Ae h2) (by rw[e]);refine ih (i+1) _ ⟨Cj,by rw[BM,hx];simp[he,Dn]⟩ (by omega) ?_
     (refine Wk.forget ?_;simp[ZF,Il];done)
   . simp only[go_sem,EE,Ab,hg,DH,h1,h2,hw];rw[Ij (Prod.ext (Ad h1).symm (Ad h2).symm)]
 . simp only[go_sem];have:i=l.length:=by simp at h2;omega
   subst this;rw[Aw] at he;simp[Ae2,he]
theorem Uv(l:List (Int×Int))(x:Int×Int)(hl:l.length<=10000000):
   BV prog 143 [.ref 1000000 0 l.length l.length,.agg [.p (.int .i64 x.1),.p (.int .i64 x.2)]] [(1000000,.arr 120 2 (Il l))] λ h r=>h=[(1000000,.arr 120 2 (Il l))]/\r= .p (.bool (decide (x∈l))):=by
 refine BX func143 rfl Af4 (by simp[Tryz.f143]) ?_;simp only[go_sem,EE];refine Om rfl rfl ?_;simp only[go_sem,Je];refine TO (p8 l x hl) ?_;rintro h' r ⟨rfl,rfl⟩;simp only[go_sem,Yt]
def Cp.Dq(b:Cp)(d:Dc):Int×Cp:=
 match DJ b.ms (d.names.getD 0 []) with
 | none=>(9,b)
 | some i=>if (b.sp.getD i.toNat B8).Cy=false then (9,b) else if decide (d.B2.getD 0 0<1)=true then (12,b) else if decide ((b.sp.getD i.toNat B8).Ch<d.B2.getD 0 0)=true then (12,b) else
     if (i,d.B2.getD 0 0)∈b.pl then (13,b) else if b.pl.length=8 then (14,b) else (0,{b with pl:=b.pl++[(i,d.B2.getD 0 0)]})
theorem Ai6(b:Cp)(k:Nat)(d:Dc)(h1:1<=d.names.length)(h2:1<=d.B2.length)(hb:b.pl.length<=8)(hm:∀x i,DJ b.ms x=some i->∃n:Nat,i=(n:Int)/\n<b.sp.length):
   BV prog 111 [.ptr 1000000 0,d.d] (b.h k) λ h r=>∃k',h=(b.Dq d).2.h k'/\r= .p (.int .i64 (b.Dq d).1):=by
 have e1:=DW d.names 0 (by omega);have e2:=Cg d.B2 0 (by omega);refine BX func111 rfl Afr (by simp[Tryz.f111]) ?_;rw[Cp.Fw b k];unfold Dc.d;simp only[go_sem];refine Di [(1000000,.box b.box),(3,.box [.p (.int .i64 d.word),.p (.int .i64 d.line),.p (.sl (CD d.names)),.p (.sl (BT d.B2))]),(1000005,.mp (JS b.ms))] mixed (p:=[(0,0),(1,0),(2,0),(3,0),(4,0),(5,0),(6,0),(7,0),(8,0),(9,0),(10,0),(11,0),(12,0),(13,0)]) (by kernel_rfl) (by simp[C5,get,Cp.box]) ?_;unfold Cp.box;cases c1:DJ b.ms (d.names.getD 0 []) with
 | none=>
   simp only[go_sem,B1,e1,KK.fit,DE,DQ,EC,c1,Ba,BS,e2];refine ⟨by omega,by omega,?_⟩;have hv:b.Dq d=(9,b):=by unfold Cp.Dq;rw[c1]
   rw[hv];exact ⟨k,rfl,rfl⟩
 | some i=>
   obtain ⟨n,rfl,hn⟩:=hm _ i c1;have hn0:(0:Int)<=(n:Int)/\(n:Int)<(b.sp.length:Int):=by omega
   have hg:=FH b.sp n hn;cases c2:(b.sp.getD n B8).Cy
   . simp only[go_sem,B1,e1,KK.fit,DE,DQ,EC,c1,BS,e2,Cm,hn0,Ab,hg,c2];refine ⟨by omega,by omega,?_⟩;have hv:b.Dq d=(9,b):=by unfold Cp.Dq;rw[c1];simp only[Ab,c2,AL]
     rw[hv];exact ⟨k,rfl,rfl⟩
   cases c3:decide (d.B2.getD 0 0<1);rotate_left
   . simp only[go_sem,B1,e1,KK.fit,DE,DQ,EC,c1,BS,e2,Cm,hn0,Ab,hg,c2,c3];refine ⟨by omega,by omega,?_⟩;have hv:b.Dq d=(12,b):=by unfold Cp.Dq;rw[c1];simp only[Ab,c2,c3,BJ,A7,AL]
     rw[hv];exact ⟨k,rfl,rfl⟩
   cases c4:decide ((b.sp.getD n B8).Ch<d.B2.getD 0 0);rotate_left
   . simp only[go_sem,B1,e1,KK.fit,DE,DQ,EC,c1,BS,e2,Cm,hn0,Ab,hg,c2,c3,c4];refine ⟨by omega,by omega,?_⟩;have hv:b.Dq d=(12,b):=by unfold Cp.Dq;rw[c1];simp only[Ab,c2,c3,c4,BJ,AJ,A7,AL]
     rw[hv];exact ⟨k,rfl,rfl⟩
   simp only[go_sem,B1,e1,KK.fit,DE,DQ,EC,c1,BS,e2,Cm,hn0,Ab,hg,c2,c3,c4,EE];refine ⟨by omega,by omega,?_⟩;refine Om rfl rfl ?_;simp only[go_sem,Je];refine TO (Uv b.pl ((n:Int),d.B2.getD 0 0) (by omega)) ?_;rintro h' r ⟨rfl,rfl⟩;cases c5:decide (((n:Int),d.B2.getD 0 0)∈b.pl);rotate_left
   . simp only[go_sem,c5];have hv:b.Dq d=(13,b):=by unfold Cp.Dq;rw[c1];simp only[Ab,c2,c3,c4,BJ,AJ,A7,AL,if_pos (Ad c5)]
     rw[hv];exact ⟨k,rfl,rfl⟩
   have c5':=Ae c5;cases c6:decide ((b.pl.length:Int)=8);rotate_left
   . simp only[go_sem,c5,c6,EE];have c6':b.pl.length=8:=by have:=Ad c6;omega
     have hv:b.Dq d=(14,b):=by unfold Cp.Dq;rw[c1];simp only[Ab,c2,c3,c4,BJ,AJ,A7,AL,if_neg c5',if_pos c6']
     rw[hv];exact ⟨k,rfl,rfl⟩
   have c6':¬b.pl.length=8:=by have:=Ae c6;omega
   simp only[go_sem,c5,c6,EE];refine ⟨⟨EN _ _ rfl,by omega,by omega⟩,?_⟩;have hv:b.Dq d=(0,{b with pl:=b.pl++[((n:Int),d.B2.getD 0 0)]}):=by unfold Cp.Dq;rw[c1];simp only[Ab,c2,c3,c4,BJ,AJ,A7,if_neg c5',if_neg c6']
   rw[hv];refine ⟨k,?_,rfl⟩;simp only[Cp.Fw,Ag4,EE,At,Aq,Az,A0]
def Fg{α:Type}(p:α->Bool):Nat->List α->Int
 | _,[]=>-1
 | k,x::r=>if p x then (k:Int) else Fg p (k+1) r
theorem HI{α:Type}(p:α->Bool)(l:List α):∀(i:Nat),i<=l.length->(∀j x,j<i->l[j]?=some x->p x=false)->Fg p 0 l=Fg p i (l.drop i):=by
 intro i
 induction i with
 | zero=>intro _ _;rfl
 | succ i ih=>
   intro h1 h2;rw[ih (by omega) (λ j x hj hx=>h2 j x (by omega) hx),AT (by omega)];have:=h2 i l[i] (by omega) (Ax (by omega));simp[Fg,this]
theorem Adv(l:List (List UInt8))(hl:l.length<=140737488355328)(g:FuncId)(p:List UInt8->Bool)(hp:∀x,BV prog g [.p (.str x)] [] λ h r=>h=[]/\r= .p (.bool (p x))):
   BV prog 157 [.p (.sl (CD l)),.fn g []] [] λ h r=>h=[]/\r= .p (.int .i64 (Fg p 0 l)):=by
 refine BX func157 rfl Aey (by simp[Tryz.f157]) ?_;simp only[go_sem,B1];refine B3 (λ i=>⟨[(0,.p (.sl (CD l))),(1,.fn g []),(7,.p (.int .i64 (l.length:Nat))),(8,.p (.int .i64 (i:Nat)))],[],19⟩) (λ i=>i<=l.length/\∀j x,j<i->l[j]?=some x->p x=false) (λ i=>l.length - i) 0 ⟨AG _,by simp⟩
   (Wk.forget (by simp[Le,T1,C5,get,Ej,DL,F7,D.ids,C6])) ?_
 rintro i n ⟨hi,he⟩ ih;simp only[go_sem];refine Cv (λ h2=>?_) (λ h2=>?_)
 . have Cj:i<l.length:=by simp at h2;omega
   simp only[go_sem,B1,Ab,DW l i Cj];have hw:=Cf i (by omega);have hx:l[i]?=some (l.getD i []):=by simp[List.getD,Cj]
   have S6:l.drop i=l.getD i []::l.drop (i+1):=by rw[AT Cj];simp[List.getD,Cj]
   refine ⟨by omega,DY (hp _) ?_⟩;rintro h' r ⟨rfl,rfl⟩;simp only[go_sem];cases hpx:p (l.getD i [])
   . simp only[go_sem,hw];refine ih (i+1) _ ⟨by omega,λ j x hj hjx=>?_⟩ (by omega) (Wk.forget (by simp[Le,T1,C5,get,Ej,DL,F7,D.ids,C6]));rcases AF.1 hj with hj | rfl
     . exact he j x hj hjx
     . rw[hx] at hjx;cases hjx;exact hpx
   . simp only[go_sem];rw[HI p l i hi he,S6];simp only[Fg,hpx,AL,and_self]
 . simp only[go_sem];have:i=l.length:=by simp at h2;omega
   rw[HI p l i hi he,this,Bv];simp[Fg]
theorem Adw(l:List Int)(hl:l.length<=140737488355328)(g:FuncId)(p:Int->Bool)(hp:∀x,BV prog g [.p (.int .i64 x)] [] λ h r=>h=[]/\r= .p (.bool (p x))):
   BV prog 158 [.p (.sl (BT l)),.fn g []] [] λ h r=>h=[]/\r= .p (.int .i64 (Fg p 0 l)):=by
 refine BX func158 rfl Aex (by simp[Tryz.f158]) ?_;simp only[go_sem,BS];refine B3 (λ i=>⟨[(0,.p (.sl (BT l))),(1,.fn g []),(7,.p (.int .i64 (l.length:Nat))),(8,.p (.int .i64 (i:Nat)))],[],19⟩) (λ i=>i<=l.length/\∀j x,j<i->l[j]?=some x->p x=false) (λ i=>l.length - i) 0 ⟨AG _,by simp⟩
   (Wk.forget (by simp[Le,T1,C5,get,Ej,DL,F7,D.ids,C6])) ?_
 rintro i n ⟨hi,he⟩ ih;simp only[go_sem];refine Cv (λ h2=>?_) (λ h2=>?_)
 . have Cj:i<l.length:=by simp at h2;omega
   simp only[go_sem,BS,Ab,Cg l i Cj];have hw:=Cf i (by omega);have hx:l[i]?=some (l.getD i 0):=by simp[List.getD,Cj]
   have S6:l.drop i=l.getD i 0::l.drop (i+1):=by rw[AT Cj];simp[List.getD,Cj]
   refine ⟨by omega,DY (hp _) ?_⟩;rintro h' r ⟨rfl,rfl⟩;simp only[go_sem];cases hpx:p (l.getD i 0)
   . simp only[go_sem,hw];refine ih (i+1) _ ⟨by omega,λ j x hj hjx=>?_⟩ (by omega) (Wk.forget (by simp[Le,T1,C5,get,Ej,DL,F7,D.ids,C6]));rcases AF.1 hj with hj | rfl
     . exact he j x hj hjx
     . rw[hx] at hjx;cases hjx;exact hpx
   . simp only[go_sem];rw[HI p l i hi he,S6];simp only[Fg,hpx,AL,and_self]
 . simp only[go_sem];have:i=l.length:=by simp at h2;omega
   rw[HI p l i hi he,this,Bv];simp[Fg]
theorem W9(l:List (List UInt8))(hl:l.length<=140737488355328)(g:FuncId)(p:List UInt8->Bool)(hp:∀x,BV prog g [.p (.str x)] [] λ h r=>h=[]/\r= .p (.bool (p x))):
   BV prog 125 [.p (.sl (CD l)),.fn g []] [] λ h r=>h=[]/\r= .p (.bool (decide (0<=Fg p 0 l))):=by
 refine BX func125 rfl Aff (by simp[Tryz.f125]) ?_;simp only[go_sem];refine Cq (Adv l hl g p hp) ?_;simp only[go_sem]
theorem Xa(l:List Int)(hl:l.length<=140737488355328)(g:FuncId)(p:Int->Bool)(hp:∀x,BV prog g [.p (.int .i64 x)] [] λ h r=>h=[]/\r= .p (.bool (p x))):
   BV prog 127 [.p (.sl (BT l)),.fn g []] [] λ h r=>h=[]/\r= .p (.bool (decide (0<=Fg p 0 l))):=by
 refine BX func127 rfl Afd (by simp[Tryz.f127]) ?_;simp only[go_sem];refine Cq (Adw l hl g p hp) ?_;simp only[go_sem]
theorem Ac6(x:List UInt8):BV prog 126 [.p (.str x)] [] λ h r=>h=[]/\r= .p (.bool (!CG x)):=by
 refine BX func126 rfl Afe (by simp[Tryz.f126]) ?_;simp only[go_sem];refine Cq (OT x) ?_;simp only[go_sem]
theorem Ac5(n:Int):BV prog 128 [.p (.int .i64 n)] [] λ h r=>h=[]/\r= .p (.bool (decide (n< -9999)||decide (9999<n))):=by
 refine BX func128 rfl Afc (by simp[Tryz.f128]) ?_;by_cases h1:n< -9999<;>by_cases h2:9999<n<;>
 . simp only[go_sem,h1,h2];try simp[h1,h2]
def CA(w:Int):Int×Int:=if w=1 then (1,2) else if w=2 then (2,0) else if w=3∨w=4 then (3,1) else if w=5 then (1,1) else (0,4)
structure Fm where
 word:List UInt8
 fields:List UInt8
 more:Bool
def Hx:List Fm:=[⟨[],[],false⟩,⟨[98,108,111,99,107],[78,35,35],false⟩,⟨[108,97,110,101],[78,78],true⟩,⟨[115,116,97,116,105,111,110],[78,78,78,35],false⟩,
 ⟨[100,101,112,111,116],[78,78,78,35],false⟩,⟨[114,111,98,111,116],[78,35],false⟩,⟨[99,111,110,102,105,103],[35,35,35,35],false⟩]
def fmC(f:Fm):List Pd:=[.str f.word,.str f.fields,.bool f.more]
theorem Ta:BV prog 92 [] [] λ h r=>h=[]/\r= .agg ((Hx.flatMap fmC).map .p):=by
 refine BX func92 rfl Akj (by simp[Tryz.f92]) ?_;simp only[go_sem];refine CR ?_;simp only[go_sem];rfl
def Aj5(num:Int)(fs:List (List UInt8)):List D:=[.p (.int .i64 num),.p (.sl (CD fs))]
theorem Ad5(f:Fm)(num:Int)(w:List UInt8)(fs:List (List UInt8)):BV prog 107 [.agg ((fmC f).map .p),.ptr 1000000 0] [(1000000,.box (Aj5 num (w::fs)))] λ h r=>h=[(1000000,.box (Aj5 num (w::fs)))]/\r= .p (.bool (decide (f.word=w))):=by
 refine BX func107 rfl Afv (by simp[Tryz.f107]) ?_;unfold Aj5 fmC;simp only[go_sem];refine Di [(1000000,.box [.p (.int .i64 num),.p (.sl (CD (w::fs)))]),(2,.box [.p (.str f.word),.p (.str f.fields),.p (.bool f.more)])] mixed (p:=[(0,0),(1,0),(2,0),(3,0),(4,0),(5,0),(6,0),(7,0)]) (by kernel_rfl) (by simp[C5,get]) ?_;have h0:(CD (w::fs)).getD 0 []=[.str w]:=rfl;simp only[go_sem,B1,h0];omega
def Ag8(l:List Fm):List (List Pd):=l.map fmC
theorem Y0(l:List Fm):(Ag8 l).length=l.length:=by simp[Ag8]
theorem Alz(l:List Fm)(i:Nat)(h:i<l.length):(Ag8 l).getD i []=[.str l[i].word,.str l[i].fields,.bool l[i].more]:=by simp[Ag8,List.getD,h,fmC]
theorem Adx(l:List Fm)(hl:l.length<=140737488355328)(g:FuncId)(p:Fm->Bool)(x1 x2:Pd)
   (hp:∀x:Fm,BV prog g [.agg [.p (.str x.word),.p (.str x.fields),.p (.bool x.more)],.ptr 1000000 0] [(1000000,.box [.p x1,.p x2])] λ h r=>h=[(1000000,.box [.p x1,.p x2])]/\r= .p (.bool (p x))):
   BV prog 106 [.p (.sl (Ag8 l)),.fn g [.ptr 1000000 0]] [(1000000,.box [.p x1,.p x2])] λ h r=>h=[(1000000,.box [.p x1,.p x2])]/\r= .p (.int .i64 (Fg p 0 l)):=by
 refine BX func106 rfl Afw (by simp[Tryz.f106]) ?_;simp only[go_sem,Y0];refine B3 (λ i=>⟨[(0,.p (.sl (Ag8 l))),(1,.fn g [.ptr 1000000 0]),(7,.p (.int .i64 (l.length:Nat))),(8,.p (.int .i64 (i:Nat)))],[(1000000,.box [.p x1,.p x2])],19⟩) (λ i=>i<=l.length/\∀j x,j<i->l[j]?=some x->p x=false) (λ i=>l.length - i) 0 ⟨AG _,by simp⟩
   (Wk.forget (by simp[ZF])) ?_
 rintro i n ⟨hi,he⟩ ih;simp only[go_sem];refine Cv (λ h2=>?_) (λ h2=>?_)
 . have Cj:i<l.length:=by simp at h2;omega
   simp only[go_sem,Y0,Ab,Alz l i Cj];have hw:=Cf i (by omega);have hx:l[i]?=some l[i]:=by simp
   have S6:l.drop i=l[i]::l.drop (i+1):=by rw[AT Cj]
   refine ⟨by omega,DY (hp l[i]) ?_⟩;rintro h' r ⟨rfl,rfl⟩;simp only[go_sem];cases hpx:p l[i]
   . simp only[go_sem,hw];refine ih (i+1) _ ⟨by omega,λ j x hj hjx=>?_⟩ (by omega) (Wk.forget (by simp[ZF]));rcases AF.1 hj with hj | rfl
     . exact he j x hj hjx
     . rw[hx] at hjx;cases hjx;exact hpx
   . simp only[go_sem];rw[HI p l i hi he,S6];simp only[Fg,hpx,AL,and_self]
 . simp only[go_sem];have:i=l.length:=by simp at h2;omega
   rw[HI p l i hi he,this,Bv];simp[Fg]
def rd:Nat->List (List UInt8)->Dc->Dc×Int
 | _,[],d=>(d,0)
 | 0,s::r,d=>if (OP s).2 then rd 0 r {d with B2:=d.B2++[(OP s).1]} else (Oi,7)
 | k+1,s::r,d=>if CG s then rd k r {d with names:=d.names++[s]} else (Oi,6)
def Et(j:Nat):Fm:=Hx.getD j ⟨[],[],false⟩
def Lf(w:List UInt8):Int:=Fg (λ f:Fm=>decide (f.word=w)) 0 Hx.tail+1
def P8(num:Int)(fs:List (List UInt8)):Dc×Int:=
 match fs with
 | []=>(Oi,20)
 | w::rest=>
   if Lf w=0 then (Oi,4)
   else if (rest.length:Int)<(CA (Lf w)).1+(CA (Lf w)).2∨((CA (Lf w)).1+(CA (Lf w)).2<(rest.length:Int)/\Lf w≠2) then (Oi,5)
   else rd (rest.length - (CA (Lf w)).2.toNat) rest ⟨Lf w,num,[],[]⟩
theorem Vt{α:Type}(p:α->Bool):∀(l:List α) (k:Nat),Fg p k l=-1∨∃i:Nat,i<l.length/\Fg p k l=((k+i:Nat):Int)
 | [],k=> .inl rfl
 | x::r,k=>by
   simp only[Fg];split
   . exact .inr ⟨0,by simp,rfl⟩
   . rcases Vt p r (k+1) with h | ⟨i,h1,h2⟩
     . exact .inl h
     . exact .inr ⟨i+1,by simp;omega,by rw[h2];omega⟩
theorem Abz(w:List UInt8):∃j:Nat,j<7/\Lf w=(j:Nat):=by
 rcases Vt (λ f:Fm=>decide (f.word=w)) Hx.tail 0 with h | ⟨i,h1,h2⟩
 . exact ⟨0,by omega,by rw[Lf,h];rfl⟩
 . have:Hx.tail.length=6:=rfl;exact ⟨i+1,by omega,by rw[Lf,h2];omega⟩
theorem N6(j:Nat)(h:j<7):((Hx.flatMap fmC).drop (j*3)).take 3=[.str (Et j).word,.str (Et j).fields,.bool (Et j).more]:=by
 rcases j with _ | _ | _ | _ | _ | _ | _ | j
 all_goals first | rfl | omega
theorem Tb(j:Nat)(h:j<7)(h0:1<=j):((Et j).fields.length:Int)=(CA j).1+(CA j).2/\(∀i:Nat,i<(Et j).fields.length->((((Et j).fields.getD i 0).toNat:Int)=35↔(CA j).1<=(i:Int)))/\(Et j).more=decide ((j:Int)=2)/\0<=(CA j).1/\0<=(CA j).2:=by
 rcases j with _ | _ | _ | _ | _ | _ | _ | j
 . omega
 all_goals first | omega | skip
 all_goals
   refine ⟨by decide,?_,by decide,by decide,by decide⟩;intro i hi;rcases i with _ | _ | _ | _ | i
   all_goals first | decide | (exfalso;simp[Et,Hx] at hi;done) | (exfalso;simp[Et,Hx] at hi;omega)
theorem Kr:(Hx.flatMap fmC).length=21:=by decide
theorem Ain(num:Int)(fs:List (List UInt8))(hfs:fs.length<=10000000):BV prog 62 [.agg [.p (.int .i64 num),.p (.sl (CD fs))]] [] λ h r=>h=[]/\r= .De [(P8 num fs).1.d,.p (.int .i64 (P8 num fs).2)]:=by
 refine BX func62 rfl Akz (by simp[Tryz.f62]) ?_;cases fs with
 | nil=>
   simp only[go_sem,B1];refine BU ?_;simp only[go_sem];try simp[P8,Oi,Dc.d,CD,BT]
 | cons w rest=>
   have Dn:¬((rest.length+1:Nat):Int)=0:=by omega
   simp only[go_sem,B1,Dn];refine Cq Ta ?_;simp only[go_sem,Kr];refine Axn (Wk.seal (t:=4) (id:=4) (xs:=Hx.flatMap fmC) (env1:=[(3,.p (.int .i64 0)),(2,.ptr 2 0),(1,.ptr 1 0)]) (hp1:=[(2,.box [.p (.int .i64 0),.p (.int .i64 0),.cl [],.cl []]),(1,.box [.p (.int .i64 num),.p (.sl (CD (w::rest)))])]) rfl rfl rfl
     (by simp[Le,T1,C5,get,Ej,DL,F7,D.ids,C6,AO.ids,base])) ?_
   simp only[go_sem];refine ZC (L:=1) rfl Aqq Aqr rfl rfl (by decide) Kr (by decide) ?_;simp only[go_sem];refine Cq (Adx Hx.tail (by decide) 107 (λ f=>decide (f.word=w)) _ _ (λ x=>Ad5 x num w rest)) ?_;obtain ⟨j,hj,hjw⟩:=Abz w;have hwv:IntKind.i64.wrap (Fg (λ f:Fm=>decide (f.word=w)) 0 Hx.tail+1)=(j:Int):=by
     have h1:Fg (λ f:Fm=>decide (f.word=w)) 0 Hx.tail+1=(j:Int):=hjw;rw[h1,BY]<;>omega
   by_cases hj0:(j:Int)=0
   . simp only[go_sem,hwv,hj0];refine BU ?_;simp only[go_sem];simp[P8,hjw,hj0,Oi,Dc.d,CD,BT]
   have hjp:(0:Int)<=j/\(j:Int)<7:=by omega
   have hfc:=N6 j hj;have Ov:0+3<=(List.drop (j*3) (Hx.flatMap fmC)).length:=by rw[List.length_drop,Kr];omega
   have Vg:List.drop 1 (List.take (rest.length+1) (CD (w::rest)))=CD rest:=by
     rw[AV (by simp[CD])];rfl
   have Ae4:Ly 1 (CD (w::rest)):=by simp[Ly,CD]
   have Ap9:(1:Int)<=((rest.length+1:Nat):Int):=by omega
   simp only[go_sem,hwv,hj0];refine Di [(2,.box [.p (.int .i64 0),.p (.int .i64 0),.cl [],.cl []]),(1,.box [.p (.int .i64 num),.p (.sl (CD (w::rest)))])] mixed (p:=[(0,0),(1,0),(2,0),(3,0),(4,0),(5,0),(6,1),(7,2),(8,0)]) (by kernel_rfl) (by simp[C5,get]) ?_;obtain ⟨Lk,Md,ZL,hs4,hs5⟩:=Tb j hj (by omega);have h2b:(j:Int)=2->(CA j).2=0:=by intro h;rw[h];rfl
   have Nb:P8 num (w::rest)=if (rest.length:Int)<(CA j).1+(CA j).2∨((CA j).1+(CA j).2<(rest.length:Int)/\(j:Int)≠2) then (Oi,5) else rd (rest.length - (CA j).2.toNat) rest ⟨j,num,[],[]⟩:=by
     simp only[P8,hjw,hj0,A7]
   rw[Nb];generalize hfe:(Et j).fields=sig at*;generalize hfo:(Et j).more=more at*;generalize hA:(CA j).1=a at*;generalize hB:(CA j).2=b at*;by_cases hl1:(rest.length:Int)<(sig.length:Int)
   . simp only[go_sem,Ab,hfc,Ov,B1,Vg,Ae4,hjp,Ap9,Int.le_refl,hl1];refine BU ?_;simp only[go_sem];rw[if_pos (.inl (by omega))];simp[Oi,Dc.d,CD,BT]
   by_cases S2:(sig.length:Int)<(rest.length:Int)/\more=false
   . simp only[go_sem,Ab,hfc,Ov,B1,Vg,Ae4,hjp,Ap9,Int.le_refl,hl1,S2];refine BU ?_;simp only[go_sem];rw[if_pos (.inr ⟨by omega,by have:=S2.2;rw[ZL] at this;simpa using this⟩)];simp[Oi,Dc.d,CD,BT]
   have hl3:(sig.length:Int)<(rest.length:Int)->(j:Int)=2/\more=true:=by
     intro h;cases more
     . exact (S2 ⟨h,rfl⟩).elim
     . exact ⟨by simpa using ZL.symm,rfl⟩
   have hgo:(if (rest.length:Int)<a+b∨(a+b<(rest.length:Int)/\(j:Int)≠2) then (Oi,(5:Int)) else rd (rest.length - b.toNat) rest ⟨j,num,[],[]⟩)=rd (rest.length - b.toNat) rest ⟨j,num,[],[]⟩:=by
     rw[if_neg];omega
   rw[hgo];generalize hK:rest.length - b.toNat=K;by_cases hl5:(sig.length:Int)<(rest.length:Int);all_goals
     first
       | simp only[go_sem,Ab,hfc,Ov,B1,Vg,Ae4,hjp,Ap9,Int.le_refl,hl1,hl5,(hl3 hl5).2]
       | simp only[go_sem,Ab,hfc,Ov,B1,Vg,Ae4,hjp,Ap9,Int.le_refl,hl1,hl5]
     refine B3 (λ q:Nat×List (List UInt8)×List Int=>⟨[(2,.ptr 2 0),(6,.ptr 6 0),(8,.ptr 8 0),(56,.p (.sl (CD rest))),(57,.p (.int .i64 (rest.length:Nat))),(58,.p (.int .i64 (q.1:Nat)))],
         [(2,.box [.p (.int .i64 0),.p (.int .i64 0),.cl [],.cl []]),(6,.box [.p (.str (Et j).word),.p (.str sig),.p (.bool more)]),
          (8,.box [.p (.int .i64 j),.p (.int .i64 num),.ref 97 0 q.2.1.length q.2.1.length,.ref 87 0 q.2.2.length q.2.2.length]),(97,.arr 9 1 (CD q.2.1)),(87,.arr 3 1 (BT q.2.2))],101⟩)
       (λ q=>q.1<=rest.length/\q.2.1.length<=q.1/\q.2.2.length<=q.1/\rd (K - q.1) (rest.drop q.1) ⟨j,num,q.2.1,q.2.2⟩=rd K rest ⟨j,num,[],[]⟩)
       (λ q=>rest.length - q.1) (0,[],[]) ⟨AG _,by simp,by simp,by simp⟩ ?_ ?_
     . refine (Wk.G6 (id:=8) (j:=2) (q:=97) (sz:=1) 9 rfl rfl rfl (by decide)).trans ((Wk.G6 (id:=8) (j:=3) (q:=87) (sz:=1) 3 rfl rfl rfl (by decide)).trans ?_);first
         | (refine Wk.forget ?_;simp[ZF,CD,BT];done)
         | (refine Wk.forget ?_;simp[ZF,CD,BT,(hl3 hl5).2];done)
     rintro ⟨i,ns,ks⟩ n ⟨hi,r9,hn2,he⟩ ih;simp only at hi r9 hn2 he;simp only[go_sem];refine Cv (λ h2=>?_) (λ h2=>?_)
     . have Cj:i<rest.length:=by simp at h2;omega
       have hw:=Cf i (by simp at hfs;omega);have u5:rest.drop i=rest.getD i []::rest.drop (i+1):=by rw[AT Cj];simp[List.getD,Cj]
       rw[u5] at he;simp only[Aq] at hfs;have RS:(i:Int)<(rest.length:Int):=by omega
       have DH:(0:Int)<=(i:Int):=by omega
       generalize hs:rest.getD i []=s at he;have number:K - i=0->(OP s).2=true->rd (K - (i+1)) (rest.drop (i+1)) ⟨j,num,ns,ks++[(OP s).1]⟩=rd K rest ⟨j,num,[],[]⟩:=by
         intro h0 h1;rw[<-he,h0];simp only[rd,h1,AL];congr 1;omega
       have Aof:K - i=0->(OP s).2=false->rd K rest ⟨j,num,[],[]⟩=(Oi,7):=by
         intro h0 h1;rw[<-he,h0];simp only[rd,h1];rfl
       have name:i<K->CG s=true->rd (K - (i+1)) (rest.drop (i+1)) ⟨j,num,ns++[s],ks⟩=rd K rest ⟨j,num,[],[]⟩:=by
         intro h0 h1;rw[<-he,show K - i=(K - (i+1))+1 by omega];simp only[rd,h1,AL]
       have Aqv:i<K->CG s=false->rd K rest ⟨j,num,[],[]⟩=(Oi,6):=by
         intro h0 h1;rw[<-he,show K - i=(K - (i+1))+1 by omega];simp only[rd,h1];rfl
       by_cases hsi:(i:Int)<(sig.length:Int)
       . by_cases PK:((sig.getD i 0).toNat:Int)=35
         . have hK0:K - i=0:=by have:=(Md i (by omega)).1 PK;omega
           simp only[go_sem,Ab,B1,DW rest i Cj,hs,hsi,PK,RS,DH];refine Cq (k8 _) ?_;cases hnv:(OP s).2
           . simp only[go_sem,hnv];refine BU ?_;simp only[go_sem];rw[Aof hK0 hnv];simp[Oi,Dc.d,CD,BT]
           . simp only[go_sem,hnv,hw,BS];refine ⟨⟨EN _ _ rfl,by omega⟩,?_⟩;refine ih (i+1,ns,ks++[(OP s).1]) _ ⟨Cj,by simp only;omega,by simp only[At,Aq,Az];omega,number hK0 hnv⟩ (by simp only;omega) ?_
             (refine Wk.forget ?_;simp[ZF,Fo,BS];done)
         . have hK0:i<K:=by have:=(Md i (by omega)).2;omega
           simp only[go_sem,Ab,B1,DW rest i Cj,hs,hsi,PK,RS,DH];refine Cq (OT _) ?_;cases hnv:CG s
           . simp only[go_sem,hnv];refine BU ?_;simp only[go_sem];rw[Aqv hK0 hnv];simp[Oi,Dc.d,CD,BT]
           . simp only[go_sem,hnv,hw,B1];refine ⟨⟨EN _ _ rfl,by omega⟩,?_⟩;refine ih (i+1,ns++[s],ks) _ ⟨Cj,by simp only[At,Aq,Az];omega,by simp only;omega,name hK0 hnv⟩ (by simp only;omega) ?_
             (refine Wk.forget ?_;simp[ZF,EV,B1];done)
       . have hK0:i<K:=by
           have hl6:(sig.length:Int)<(rest.length:Int):=by omega
           have:=h2b (hl3 hl6).1;omega
         simp only[go_sem,Ab,B1,DW rest i Cj,hs,hsi,RS,DH];refine Cq (OT _) ?_;cases hnv:CG s
         . simp only[go_sem,hnv];refine BU ?_;simp only[go_sem];rw[Aqv hK0 hnv];simp[Oi,Dc.d,CD,BT]
         . simp only[go_sem,hnv,hw,B1];refine ⟨⟨EN _ _ rfl,by omega⟩,?_⟩;refine ih (i+1,ns++[s],ks) _ ⟨Cj,by simp only[At,Aq,Az];omega,by simp only;omega,name hK0 hnv⟩ (by simp only;omega) ?_
           (refine Wk.forget ?_;simp[ZF,EV,B1];done)
     . simp only[go_sem];have s7:i=rest.length:=by simp at h2;omega
       subst s7;refine BU ?_;simp only[go_sem];rw[Bv] at he;simp only[rd] at he;rw[<-he];(try rw[Ku _ _ (Ai _)]);(try rw[MS _ _ (Ai _)]);simp[Dc.d,B1,BS]
def CP(d:Dc):Bool:=
 decide (1<=d.word/\d.word<=6)&&(decide ((d.B2.length:Int)=(CA d.word).2)&&((decide ((d.names.length:Int)=(CA d.word).1)||(decide ((CA d.word).1<(d.names.length:Int))&&decide (d.word=2)))&&
   (d.names.all CG&&d.B2.all λ n=>!(decide (n< -9999)||decide (9999<n)))))
theorem Pk{α:Type}(p:α->Bool):∀(l:List α) (k:Nat),0<=Fg p k l↔l.any p=true
 | [],k=>by simp[Fg]
 | x::r,k=>by
   simp only[Fg,List.any_cons];by_cases h:p x=true
   . rw[if_pos h];simp[h]
   . rw[if_neg h,Pk p r (k+1)];simp[h]
theorem Aen{α:Type}(p:α->Bool)(l:List α)(k:Nat):decide (0<=Fg p k l)=l.any p:=by
 rw[Bt,Ao,Pk]
theorem y9(j:Nat)(h:j<7):∀b∈(Et j).fields,b.toNat<128:=by
 rcases j with _ | _ | _ | _ | _ | _ | _ | j
 all_goals first | decide | omega
theorem XH(d:Dc)(hd:d.names.length<=10000000/\d.B2.length<=10000000):BV prog 91 [d.d] [] λ h r=>h=[]/\r= .p (.bool (CP d)):=by
 obtain ⟨word,line,names,B2⟩:=d;simp only at hd;refine BX func91 rfl Akk (by simp[Tryz.f91]) ?_;by_cases h1:word<1
 . have hv:CP ⟨word,line,names,B2⟩=false:=by simp[CP];intro h;omega
   simp only[go_sem,Dc.d,h1,hv]
 by_cases h2:6<word
 . have hv:CP ⟨word,line,names,B2⟩=false:=by simp[CP];intro h;omega
   simp only[go_sem,Dc.d,h1,h2,hv]
 obtain ⟨j,rfl⟩:∃j:Nat,word=(j:Int):=⟨word.toNat,by omega⟩;have hj:j<7:=by omega
 have hfc:=N6 j hj;have Ov:j*3+3<=(Hx.flatMap fmC).length:=by rw[Kr];omega
 obtain ⟨Lk,Md,ZL,hs4,hs5⟩:=Tb j hj (by omega);have Ba6:=y9 j hj;have r7:(Et j).fields.length<=4:=by
   rcases j with _ | _ | _ | _ | _ | _ | _ | j
   all_goals first | decide | omega
 have hj0:(0:Int)<=(j:Int)/\(j:Int)<7:=by omega
 have hdt:List.take 3 (List.drop (j*3) (List.map D.p (Hx.flatMap fmC)))=[.p (.str (Et j).word),.p (.str (Et j).fields),.p (.bool (Et j).more)]:=by
   rw[<-List.map_drop,<-Bu,hfc];rfl
 simp only[go_sem,Dc.d,h1,h2];refine CE mixed (p:=[(1,0),(2,0),(4,1),(0,2),(3,0),(5,2),(6,0),(7,0)]) (by kernel_rfl) (by simp[C5,get]) ?_;simp only[go_sem];refine Gq Ta ?_;have hv:CP ⟨j,line,names,B2⟩=(decide ((B2.length:Int)=(CA j).2)&&((decide ((names.length:Int)=(CA j).1)||(decide ((CA j).1<(names.length:Int))&&decide ((j:Int)=2)))&&
   (names.all CG&&B2.all λ n=>!(decide (n< -9999)||decide (9999<n))))):=by
   have:decide ((1:Int)<=j/\(j:Int)<=6)=true:=by simp;omega
   simp only[CP,this,Bz]
 rw[hv,<-ZL];clear hv ZL;generalize hfe:(Et j).fields=sig at*;generalize hfo:(Et j).more=more at*;generalize hA:(CA j).1=a at*;generalize hB:(CA j).2=b at*;simp only[go_sem,Ab,Ov,hdt,hj0];refine Ang rfl rfl ti9 rfl rfl ?_;simp only[go_sem];refine B3 (λ i=>⟨[(1,.ptr 1 0),(3,.ptr 3 0),(22,.ptr 22 0),(4,.p (.int .i64 (min i a.toNat:Nat))),(5,.p (.int .i64 (i - a.toNat:Nat)))],
     [(1,.box [.p (.int .i64 j),.p (.int .i64 line),.p (.sl (CD names)),.p (.sl (BT B2))]),(3,.box [.p (.str (Et j).word),.p (.str sig),.p (.bool more)]),(22,.iter sig i)],67⟩)
   (λ i=>i<=sig.length) (λ i=>sig.length - i) 0 (AG _) (Wk.forget (by simp[ZF,Nat.zero_min,Nat.zero_sub])) ?_
 rintro i n hi ih;simp only[go_sem];refine Aql rfl rfl rfl Ba6 (λ Cj=>?_) (λ hge=>?_)
 . have PK:=Md i Cj;have Hw:sig.getD i 0=sig[i]:=by simp[List.getD,Cj]
   rw[Hw] at PK;simp only[go_sem];by_cases hc:(sig[i].toNat:Int)=35
   . have hai:=PK.1 hc;have hw:IntKind.i64.wrap (((i - a.toNat:Nat):Int)+1)=((i+1 - a.toNat:Nat):Int):=by rw[BY]<;>omega
     simp only[go_sem,hc,hw];refine ih (i+1) _ Cj (by omega) ?_;have e1:min (i+1) a.toNat=min i a.toNat:=by omega
     rw[e1]
     (refine Wk.forget ?_;simp[ZF];done)
   . have hai:¬a<=(i:Int):=λ h=>hc (PK.2 h);have hw:IntKind.i64.wrap (((min i a.toNat:Nat):Int)+1)=((min (i+1) a.toNat:Nat):Int):=by rw[BY]<;>omega
     simp only[go_sem,hc,hw];refine ih (i+1) _ Cj (by omega) ?_;have e1:i+1 - a.toNat=i - a.toNat:=by omega
     rw[e1]
     (refine Wk.forget ?_;simp[ZF];done)
 . have RS:i=sig.length:=by omega
   have e4:((min i a.toNat:Nat):Int)=a:=by omega
   have e5:((i - a.toNat:Nat):Int)=b:=by omega
   simp only[go_sem,BS,B1,e4,e5];clear ih;have k1:=W9 names (by omega) 126 (λ x=>!CG x) Ac6;have k2:=Xa B2 (by omega) 128 (λ n=>decide (n< -9999)||decide (9999<n)) Ac5;rw[Aen] at k1 k2;cases c1:decide ((B2.length:Int)=b)
   . simp only[go_sem,c1];try simp
   cases c2:decide ((names.length:Int)=a)
   . cases c3:decide (a<(names.length:Int))
     . simp only[go_sem,c1,BS,B1,e4,e5,c2,c3];try simp
     cases more
     . simp only[go_sem,c1,BS,B1,e4,e5,c2,c3];try simp
     simp only[go_sem,c1,BS,B1,e4,e5,c2,c3];refine Cq k1 ?_;cases c4:names.any λ x=>!CG x
     . have ZS:names.all CG=true:=by
         rw[List.all_eq_not_any_not,c4];rfl
       simp only[go_sem,c4];refine Cq k2 ?_;simp only[go_sem];rw[ZS,List.all_eq_not_any_not];try simp
     . have ZS:names.all CG=false:=by
         rw[List.all_eq_not_any_not,c4];rfl
       simp only[go_sem,c4];rw[ZS];try simp
   . simp only[go_sem,c1,BS,B1,e4,e5,c2];refine Cq k1 ?_;cases c4:names.any λ x=>!CG x
     . have ZS:names.all CG=true:=by
         rw[List.all_eq_not_any_not,c4];rfl
       simp only[go_sem,c4];refine Cq k2 ?_;simp only[go_sem];rw[ZS,List.all_eq_not_any_not];try simp
     . have ZS:names.all CG=false:=by
         rw[List.all_eq_not_any_not,c4];rfl
       simp only[go_sem,c4];rw[ZS];try simp
def Cp.DT:Cp->List (List UInt8)->Int×Cp
 | b,x::y::r=>if (b.EL x y).1=0 then Cp.DT (b.EL x y).2 (y::r) else b.EL x y
 | b,_=>(0,b)
def Cp.DC(b:Cp)(d:Dc):Int×Cp:=
 if CP d=false then (20,b) else if decide (d.word=1)=true then b.Em d else if decide (d.word=2)=true then b.DT d.names else
   if decide (d.word=5)=true then b.Dq d else if decide (d.word=6)=true then b.Dz d else b.Es d
structure BI(b:Cp):Prop where
 nb:b.bl.length<=24
 nn:b.nx.length=b.bl.length
 mb:∀x i,DJ b.mb x=some i->∃n:Nat,i=(n:Int)/\n<b.bl.length
 ms:∀x i,DJ b.ms x=some i->∃n:Nat,i=(n:Int)/\n<b.sp.length
 row:∀i,(b.nx.getD i []).length<=4
 ns:b.sp.length<=6
 nba:b.ba.length=b.sp.length
 sl:0<=b.sl/\b.sl<=4*b.sp.length
 np:b.pl.length<=8
 bas:∀x∈b.ba,0<=x/\x<=24
 sps:∀s∈b.sp,1<=s.Ch/\s.Ch<=4
 pls:∀p∈b.pl,(∃n:Nat,p.1=(n:Int)/\n<b.sp.length)/\1<=p.2/\p.2<=4
theorem MP(p:List UInt8×Int)(r:List (List UInt8×Int))(x:List UInt8):DJ (p::r) x=if p.1=x then some p.2 else DJ r x:=by
 unfold DJ;rw[List.find?_cons];by_cases h:p.1=x
 . simp[h]
 . rw[if_neg h,beq_eq_false_iff_ne.2 h]
theorem Acy(p:List UInt8×Int)(r:List (List UInt8×Int))(k:List UInt8)(v:Int):HC (p::r) k v=if p.1=k then (k,v)::r else p::HC r k v:=rfl
theorem MO(m:List (List UInt8×Int))(k:List UInt8)(v:Int)(x:List UInt8):DJ (HC m k v) x=if x=k then some v else DJ m x:=by
 induction m with
 | nil=>
   have:HC [] k v=[(k,v)]:=rfl;rw[this,MP];by_cases h:x=k
   . rw[if_pos h,if_pos h.symm]
   . rw[if_neg h,if_neg (Bj h)]
 | cons p r ih=>
   rw[Acy,MP];by_cases h:p.1=k
   . rw[if_pos h,MP];by_cases h2:x=k
     . rw[if_pos h2,if_pos h2.symm]
     . rw[if_neg h2,if_neg (Bj h2),if_neg (λ e=>h2 (by rw[<-e,<-h]))]
   . rw[if_neg h,MP,ih];by_cases h2:p.1=x
     . rw[if_pos h2,if_pos h2,if_neg (λ e=>h (by rw[h2,e]))]
     . rw[if_neg h2,if_neg h2]
theorem BI.block{b:Cp}(h:BI b)(d:Dc):BI (b.Em d).2:=by
 unfold Cp.Em;split
 . exact h
 . split
   . exact h
   . rename_i h1 h2;have hl:b.bl.length<24:=by have:=h.nb;omega
     refine ⟨by simp;omega,by simp[h.nn],λ x i hx=>?_,h.ms,λ i=>?_,h.ns,h.nba,h.sl,h.np,h.bas,h.sps,h.pls⟩
     . simp only[MO] at hx;split at hx
       . cases hx;exact ⟨_,rfl,by simp⟩
       . obtain ⟨n,h3,h4⟩:=h.mb x i hx;exact ⟨n,h3,by simp;omega⟩
     . simp only[List.getD,AM];split
       . have:=h.row i;simpa [List.getD] using this
       . rcases hj:i - b.nx.length with _ | j<;>simp
theorem BI.lane{b:Cp}(h:BI b)(x y:List UInt8):BI (b.EL x y).2:=by
 unfold Cp.EL;split
 . rename_i i j h1 h2;split
   . exact h
   . split
     . exact h
     . split
       . exact h
       . rename_i h3 h4 h5;obtain ⟨n,rfl,hn⟩:=h.mb x i h1;refine ⟨h.nb,by simp[h.nn],h.mb,h.ms,λ k=>?_,h.ns,h.nba,h.sl,h.np,h.bas,h.sps,h.pls⟩;simp only[Ab] at h5 ⊢;have hr:=h.row n;have hrk:=h.row k;simp only[List.getD,BN];split
         . rename_i e;subst e;split
           . simp only[AY,At,Aq,Az];simp only[List.getD] at h5 hr;omega
           . simp
         . simpa [List.getD] using hrk
 . exact h
theorem BI.Yi:∀{l:List (List UInt8)} {b:Cp},BI b->BI (b.DT l).2
 | [],b,h=>h
 | [x],b,h=>h
 | x::y::r,b,h=>by
   simp only[Cp.DT];split
   . exact BI.Yi (h.lane x y)
   . exact h.lane x y
theorem BI.Arv{b:Cp}(h:BI b)(d:Dc):BI (b.Es d).2:=by
 unfold Cp.Es;split
 . exact h
 . split
   . split
     . exact h
     . split
       . exact h
       . split
         . exact h
         . rename_i h1 h2 h3;simp only[Ao] at h1 h2;have h4:=h.ns;have h5:=h.sl;refine ⟨h.nb,h.nn,h.mb,λ x i hx=>?_,h.row,by simp;omega,by simp[h.nba],by simp only[At,Aq,Az];omega,h.np,λ x hx=>?_,λ s hs=>?_,λ p hp=>?_⟩;simp only[MO] at hx;split at hx
           . cases hx;exact ⟨_,rfl,by simp⟩
           . obtain ⟨n,h6,h7⟩:=h.ms x i hx;exact ⟨n,h6,by simp;omega⟩
           . rcases Au.1 hx with hx | hx
             . exact h.bas x hx
             . simp only[Av] at hx;subst hx;omega
           . rcases Au.1 hs with hs | hs
             . exact h.sps s hs
             . simp only[Av] at hs;subst hs;simp only;omega
           . obtain ⟨⟨n,h6,h7⟩,h8⟩:=h.pls p hp;exact ⟨⟨n,h6,by simp;omega⟩,h8⟩
   . exact h
theorem BI.Ai7{b:Cp}(h:BI b)(d:Dc):BI (b.Dq d).2:=by
 unfold Cp.Dq;split
 . exact h
 . rename_i i hi;split
   . exact h
   split
   . exact h
   split
   . exact h
   split
   . exact h
   split
   . exact h
   rename_i h1 h2 h3 h4 h5;obtain ⟨n,rfl,hn⟩:=h.ms _ _ hi;simp only[Ao,Ab] at h2 h3;have hs:=h.sps (b.sp.getD n B8) (CJ b.sp n B8 hn);refine ⟨h.nb,h.nn,h.mb,h.ms,h.row,h.ns,h.nba,h.sl,?_,h.bas,h.sps,λ p hp=>?_⟩
   . have:=h.np;simp;omega
   . rcases Au.1 hp with hp | hp
     . exact h.pls p hp
     . simp only[Av] at hp;subst hp;exact ⟨⟨n,rfl,hn⟩,by omega,by omega⟩
theorem BI.config{b:Cp}(h:BI b)(d:Dc):BI (b.Dz d).2:=by
 unfold Cp.Dz
 repeat' split
 all_goals first | exact h | skip
 exact ⟨h.nb,h.nn,h.mb,h.ms,h.row,h.ns,h.nba,h.sl,h.np,h.bas,h.sps,h.pls⟩
theorem BI.add{b:Cp}(h:BI b)(d:Dc):BI (b.DC d).2:=by
 unfold Cp.DC
 repeat' split
 . exact h
 . exact h.block d
 . exact h.Yi
 . exact h.Ai7 d
 . exact h.config d
 . exact h.Arv d
theorem LF{d:Dc}(h:CP d=true):(1<=d.word/\d.word<=6)/\(d.B2.length:Int)=(CA d.word).2/\(CA d.word).1<=(d.names.length:Int):=by
 simp only[CP,Ar,Ao,Bool.or_eq_true] at h;obtain ⟨h1,h2,h3,_⟩:=h;exact ⟨h1,h2,by omega⟩
theorem Atn(b:Cp)(k:Nat)(d:Dc)(h:BI b)(hd:d.names.length<=10000000/\d.B2.length<=10000000):
   BV prog 63 [.ptr 1000000 0,d.d] (b.h k) λ h r=>∃k',h=(b.DC d).2.h k'/\r= .p (.int .i64 (b.DC d).1):=by
 have v:=XH d hd;have v1:=λ h1 h2=>Amr b k d h1 h2 h.nb (by rw[h.nn];exact h.nb);have v5:=λ h1 h2=>Ai6 b k d h1 h2 h.np h.ms;have v6:=Agh b k d;have v3:=λ h1 h2=>Anw b k d h1 h2 h.ns (by rw[h.nba];exact h.ns) ⟨h.sl.1,by have:=h.sl.2;have:=h.ns;omega⟩;have hs:=@LF d;unfold Dc.d at v v1 v5 v6 v3 ⊢;refine BX func63 rfl Aky (by simp[Tryz.f63]) ?_;rw[Cp.Fw b k];simp only[go_sem];refine Cq v ?_;cases c0:CP d
 . have hv:b.DC d=(20,b):=by unfold Cp.DC;rw[if_pos c0]
   simp only[go_sem,c0,hv];first | exact ⟨k,rfl,rfl⟩ | exact ⟨k,rfl⟩
 have hs:=hs c0;cases c1:decide (d.word=1);rotate_left
 . have e1:d.word=1:=Ad c1;rw[e1] at hs;simp[CA] at hs;simp only[go_sem,c0,c1];refine DY (v1 (by omega) (by omega)) ?_;rintro h' r ⟨k',rfl,rfl⟩;have hv:b.DC d=b.Em d:=by unfold Cp.DC;simp only[c0,c1,BJ,A7,AL]
   rw[hv];simp only[go_sem,Cp.Fw (b.Em d).2 k'];first | exact ⟨k',rfl,rfl⟩ | exact ⟨k',rfl⟩
 cases c2:decide (d.word=2);rotate_left
 . have hv:b.DC d=b.DT d.names:=by unfold Cp.DC;simp only[c0,c1,c2,BJ,AJ,A7,AL]
   rw[hv];have e1:d.word=2:=Ad c2;rw[e1] at hs;simp[CA] at hs;simp only[go_sem,c0,c1,c2];refine B3 (λ q:Nat×Cp×Nat=>⟨[(0,.ptr 1000000 0),(3,.ptr 3 0),(4,.p (.int .i64 0)),(5,.p (.int .i64 (q.1:Nat)))],(3,.box [.p (.int .i64 d.word),.p (.int .i64 d.line),.p (.sl (CD d.names)),.p (.sl (BT d.B2))])::q.2.1.h q.2.2,55⟩)
     (λ q=>1<=q.1/\q.1<=d.names.length/\BI q.2.1/\b.DT d.names=q.2.1.DT (d.names.drop (q.1 - 1))) (λ q=>d.names.length - q.1) (1,b,k) ⟨Ai _,by omega,h,by simp⟩ (Wk.forget (by simp[ZF,Cp.Fw])) ?_
   rintro ⟨i,b',k'⟩ n ⟨Nr,hi,hB,he⟩ ih;dsimp only at Nr hi hB he;simp only[go_sem,Cp.Fw b' k',B1];refine Cv (λ h2=>?_) (λ h2=>?_)
   . have Cj:i<d.names.length:=by simp at h2;omega
     have hw:=Cf i (by omega);have hp:IntKind.i64.wrap ((i:Int) - 1)=((i - 1:Nat):Int):=by rw[IntKind.wrap_i64];omega
     have g1:=DW d.names (i - 1) (by omega);have g2:=DW d.names i Cj;have r1:(0:Int)<=((i - 1:Nat):Int)/\((i - 1:Nat):Int)<(d.names.length:Int):=by omega
     have r2:(0:Int)<=(i:Int)/\(i:Int)<(d.names.length:Int):=by omega
     have Vg:d.names.drop (i - 1)=d.names.getD (i - 1) []::d.names.getD i []::d.names.drop (i+1):=by
       have a1:d.names.drop (i - 1)=d.names[i - 1]::d.names.drop (i - 1+1):=AT (by omega);have a2:d.names.drop i=d.names[i]::d.names.drop (i+1):=AT Cj;rw[a1,show i - 1+1=i by omega,a2];simp[List.getD,Cj,show i - 1<d.names.length by omega]
     have Ba2:d.names.drop i=d.names.getD i []::d.names.drop (i+1):=by
       rw[AT Cj];simp[List.getD,Cj]
     rw[Vg] at he;simp only[go_sem,Cp.Fw b' k',B1];refine Di [(3,.box [.p (.int .i64 d.word),.p (.int .i64 d.line),.p (.sl (CD d.names)),.p (.sl (BT d.B2))])] mixed (p:=[(0,0),(1,0),(2,0),(3,0),(4,0),(5,0),(6,0),(7,0),(8,0),(9,0),(10,0),(11,0),(12,2),(13,0)]) (by kernel_rfl) (by simp[C5,get]) ?_;simp only[go_sem,Cp.Fw b' k',B1,hp,r1,r2,Ab,g1,g2];refine Abw (Aos b' k' (d.names.getD (i - 1) []) (d.names.getD i []) (by rw[hB.nn];exact hB.mb) (λ i=>by have:=hB.row i;omega)) ?_;rintro h' r ⟨k2,rfl,rfl⟩;have hBl:=hB.lane (d.names.getD (i - 1) []) (d.names.getD i []);generalize hL:b'.EL (d.names.getD (i - 1) []) (d.names.getD i [])=L at*;obtain ⟨e,b2⟩:=L;simp only at hBl;simp only[Cp.DT,hL] at he;cases c3:decide (e=0)
     . have c3':¬e=0:=Ae c3;rw[if_neg c3'] at he;rw[he];simp only[go_sem,Cp.Fw b2 k2,c3];first | exact ⟨k2,rfl,rfl⟩ | exact ⟨k2,rfl⟩
     . have c3':e=0:=Ad c3;rw[if_pos c3'] at he;simp only[go_sem,Cp.Fw b2 k2,c3,hw];refine ih (i+1,b2,k2) _ ⟨by omega,Cj,hBl,?_⟩ (by simp;omega) ?_
       . simp only[Nat.add_sub_cancel];rw[Ba2];exact he
       . (refine Wk.forget ?_;simp[ZF,Cp.Fw];done)
   . have:i=d.names.length:=by simp at h2;omega
     simp only[go_sem,Cp.Fw b' k'];have I8:d.names.drop (i - 1)=[d.names.getD (i - 1) []]:=by
       rw[AT (by omega),BC (by omega)];simp[List.getD,show i - 1<d.names.length by omega]
     rw[I8] at he;rw[he];first | exact ⟨k',rfl,rfl⟩ | exact ⟨k',rfl⟩
 cases c5:decide (d.word=5);rotate_left
 . have e1:d.word=5:=Ad c5;rw[e1] at hs;simp[CA] at hs;simp only[go_sem,c0,c1,c2,c5];refine DY (v5 (by omega) (by omega)) ?_;rintro h' r ⟨k',rfl,rfl⟩;have hv:b.DC d=b.Dq d:=by unfold Cp.DC;simp only[c0,c1,c2,c5,BJ,AJ,A7,AL]
   rw[hv];simp only[go_sem,Cp.Fw (b.Dq d).2 k'];first | exact ⟨k',rfl,rfl⟩ | exact ⟨k',rfl⟩
 cases c6:decide (d.word=6);rotate_left
 . have e1:d.word=6:=Ad c6;rw[e1] at hs;simp[CA] at hs;simp only[go_sem,c0,c1,c2,c5,c6];refine DY (v6 (by omega)) ?_;rintro h' r ⟨k',rfl,rfl⟩;have hv:b.DC d=b.Dz d:=by unfold Cp.DC;simp only[c0,c1,c2,c5,c6,BJ,AJ,A7,AL]
   rw[hv];simp only[go_sem,Cp.Fw (b.Dz d).2 k'];first | exact ⟨k',rfl,rfl⟩ | exact ⟨k',rfl⟩
 . have n1:¬d.word=1:=Ae c1;have n2:¬d.word=2:=Ae c2;have n5:¬d.word=5:=Ae c5;have n6:¬d.word=6:=Ae c6;have e1:d.word=3∨d.word=4:=by omega
   simp only[CA,n1,n2,e1,A7,AL] at hs;simp only[go_sem,c0,c1,c2,c5,c6];refine DY (v3 (by omega) (by omega)) ?_;rintro h' r ⟨k',rfl,rfl⟩;have hv:b.DC d=b.Es d:=by unfold Cp.DC;simp only[c0,c1,c2,c5,c6,BJ,AJ,A7,AL]
   rw[hv];simp only[go_sem,Cp.Fw (b.Es d).2 k'];first | exact ⟨k',rfl,rfl⟩ | exact ⟨k',rfl⟩
def parseV:List Ln->List Dc->List Dc×Int×Int
 | [],acc=>(acc,0,0)
 | x::r,acc=>if (P8 x.num x.fs).2=0 then parseV r (acc++[(P8 x.num x.fs).1]) else ([],x.num,(P8 x.num x.fs).2)
def k4(r:List Dc×Int×Int):D:= .De [.p (.sl (EK r.1)),.p (.int .i64 r.2.1),.p (.int .i64 r.2.2)]
theorem Ad4(l:List Ln)(hl:l.length<=10000000)(hf:∀x∈l,x.fs.length<=10000000):BV prog 30 [.p (.sl (Gb l))] [] λ h r=>h=[]/\r=k4 (parseV l []):=by
 refine BX func30 rfl Ali (by simp[Tryz.f30]) ?_;simp only[go_sem,Dx];refine B3 (λ q:Nat×List Dc=>⟨[(10,.p (.sl (Gb l))),(11,.p (.int .i64 (l.length:Nat))),(12,.p (.int .i64 (q.1:Nat))),(5,.ref 29 0 q.2.length q.2.length)],[(29,.arr 82 4 (EK q.2))],32⟩)
   (λ q=>q.1<=l.length/\q.2.length<=q.1/\parseV (l.drop q.1) q.2=parseV l []) (λ q=>l.length - q.1) (0,[]) ⟨AG _,by simp,by simp⟩ ((Wk.nil (t:=5) (q:=29) (sz:=4) 82 rfl rfl (by decide)).trans (Wk.forget (by simp[ZF,EK]))) ?_
 rintro ⟨i,acc⟩ n ⟨hi,hn,he⟩ ih;simp only at hi hn he;simp only[go_sem];refine Cv (λ h2=>?_) (λ h2=>?_)
 . have Cj:i<l.length:=by simp at h2;omega
   have hw:=Cf i (by omega);have hb:=hf _ (CJ l i ln0 Cj);rw[D1 l i ln0 Cj] at he;simp only[go_sem,Ab,Dx,Ts l i Cj];generalize l.getD i ln0=x at*;refine ⟨by omega,DY (Ain x.num x.fs hb) ?_⟩;rintro h' r ⟨rfl,rfl⟩;by_cases hz:(P8 x.num x.fs).2=0
   . simp only[go_sem,Dc.d,hz,hw,Fh];refine ⟨⟨EN _ _ rfl,by omega⟩,?_⟩;refine ih (i+1,acc++[(P8 x.num x.fs).1]) _ ⟨Cj,by simp only[At,Aq,Az];omega,by rw[<-he];simp only[parseV,hz,AL]⟩ (by simp only;omega) ?_
     (refine Wk.forget ?_;simp[ZF,QG,Fh];done)
   . simp only[go_sem,Dc.d,hz];refine CE mixed (p:=[(0,0),(1,0),(2,0),(3,0),(4,0),(5,0)]) (by kernel_rfl) (by simp[C5,get]) ?_;simp only[go_sem];refine BU ?_;simp only[go_sem];rw[<-he];simp[parseV,hz,k4,EK]
 . simp only[go_sem];have s7:i=l.length:=by simp at h2;omega
   subst s7;refine BU ?_;simp only[go_sem];rw[Bv] at he;rw[<-he];simp[parseV,k4,Fh,Ag9]
end Go.Am
end
