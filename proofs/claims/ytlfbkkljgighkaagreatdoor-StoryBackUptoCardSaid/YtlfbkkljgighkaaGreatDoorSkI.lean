/- Texts of this proof, what it rests on, merged: part I. -/
import Derived.Test.YtlfbkkljgighkaaGreatDoorSkH
noncomputable section
namespace Go.Am
open Go Go.Proofs
open Go.IntKind (i64)
open Tryz
set_option maxRecDepth 100000
set_option linter.unusedVariables false
set_option linter.unusedSimpArgs false
set_option maxHeartbeats 2000000
theorem Af8{b e f g r}(a:Mv b e f g=some r):
   Rq 75 [.agg b.c,.agg e.c,.agg f.c,iD g] [] [] (bD r):=by
 refine EC func75 Bf8 ?_;unfold Mv at a;refine Dd [0,0,0,0,0,0,0,0,0,0,0,0,0] ?_;obtain ⟨_,a⟩ | ⟨_,a⟩:=cE a
 . obtain ⟨_,a⟩ | ⟨_,a⟩:=cE a
   . obtain ⟨_,a⟩ | ⟨_,a⟩:=cE a
     . obtain ⟨_,a⟩ | ⟨_,a⟩:=cE a
       . obtain ⟨_,a⟩ | ⟨_,a⟩:=cE a
         . refine cP a λ _ a=>?_;refine cP a λ _ a=>?_;obtain ⟨_,a⟩ | ⟨_,a⟩:=cE a
           . refine cP a λ _ a=>?_;refine cP a λ _ a=>?_;exact zP a
           exact zP a
         refine cP a λ _ a=>?_;exact zP a
       refine cP a λ _ a=>?_;exact zP a
     refine Eb a G4 λ _ a=>?_;refine cP a λ _ a=>?_;exact zP a
   refine cP a λ _ a=>?_;refine cP a λ _ a=>?_;exact zP a
 obtain ⟨_,a⟩ | ⟨_,a⟩:=cE a
 . obtain ⟨_,a⟩ | ⟨_,a⟩:=cE a
   . obtain ⟨_,a⟩ | ⟨_,a⟩:=cE a
     . obtain ⟨_,a⟩ | ⟨_,a⟩:=cE a
       . refine cP a λ _ a=>?_;refine cP a λ _ a=>?_;obtain ⟨_,a⟩ | ⟨_,a⟩:=cE a
         . refine cP a λ _ a=>?_;refine cP a λ _ a=>?_;exact zP a
         exact zP a
       exact zP a
     exact zP a
   refine Eb a G4 λ _ a=>?_;refine cP a λ _ a=>?_;exact zP a
 refine cP a λ _ a=>?_;refine cP a λ _ a=>?_;exact zP a
def Agf(b:O1)(a:Int):(List Dty)×Int->Option (((List Dty)×Int)⊕(((List Dty)×Int)))
 | (Ho,Ii)=>cond (Ii<=5) ((CU b.CN a).bind λ PY=>(CU b.CV a).bind λ Nn=>(CU b.CX a).bind λ OK=>(Mv PY Nn OK Ii).bind λ NC=>cond NC (cond (Ho.length+1<10000000) (some (.inl ((Ho++[(⟨a,Ii,0⟩:Dty)]),(i64.wrap (Ii+1))))) none) (some (.inl (Ho,(i64.wrap (Ii+1)))))) (some (.inr (Ho,Ii)))
def Age(b:O1):(List Dty)×Int->Option (((List Dty)×Int)⊕(((List Dty)×Int)))
 | (e,a)=>(IH b).bind λ JJ=>cond (a<JJ) ((C9 (Agf b a) (e,1)).bind (λ (v39,v40)=>some (.inl (v39,(i64.wrap (a+1)))))) (some (.inr (e,a)))
def SF(a:O1):Option ((List Dty)):=
 (C9 (Age a) ([],0)).bind (λ (v41,v42)=>some v41)
theorem Ar5{a r}(b:SF a=some r):
   Rq 41 [.agg [sD (CS a.CP),sD (Dy a.CQ),sD (Dl a.closed),sD (CS a.Dm),sD (CS a.CZ),sD (Ec a.CN),sD (DE a.CR),bD a.C6,sD (Ei a.CV),sD (EB a.CX),sD (C8 a.down),sD (C8 a.up)]] [] [] (sD (Jj r)):=by
 refine EC func41 Bfx ?_;unfold SF at b;obtain ⟨j,i,b⟩:=bE b;refine A ?_;refine E0 i (λ q=>⟨[(1,.ptr 1 0),(3,rD 39 q.1),(4,iD q.2)],[(1,.box [sD (CS a.CP),sD (Dy a.CQ),sD (Dl a.closed),sD (CS a.Dm),sD (CS a.CZ),sD (Ec a.CN),sD (DE a.CR),bD a.C6,sD (Ei a.CV),sD (EB a.CX),sD (C8 a.down),sD (C8 a.up)]),(39,.arr 127 3 (Jj q.1))],41⟩) ((Wk.nil (t:=3) (q:=39) (sz:=3) 127 rfl rfl AV).trans Wr) ?_;rintro ⟨k,l⟩ _ EO YN;rw[Age.eq_1] at EO;refine FI EO RR λ _ EO=>?_;obtain ⟨_,EO⟩ | ⟨_,EO⟩:=cK EO
 . cases kR EO;exact zP b
 obtain ⟨g,f,EO⟩:=bK EO;refine HV f [1,4] [1] (λ q=>[(3,rD 39 q.1),(5,iD q.2)]) (λ q=>[(39,.arr 127 3 (Jj q.1))]) ?_;rintro ⟨Ho,Ii⟩ _ GO Awy;rw[Agf.eq_1] at GO;obtain ⟨_,GO⟩ | ⟨_,GO⟩:=cK GO
 . cases kR GO;exact AL (YN _ _ (kI EO))
 refine Dd [0,0,0,0,0,0,0,0,0,0,0,0,0,0,0,0,0,3] ?_;obtain ⟨_,GO,_⟩:=jK Da GO;obtain ⟨_,GO,_⟩:=jK TF GO;obtain ⟨_,GO,_⟩:=jK Li GO;refine Sh GO Af8 λ _ GO=>?_;obtain ⟨_,GO⟩ | ⟨_,GO⟩:=cK GO
 . exact AL (Awy _ _ (kI GO))
 obtain ⟨e,GO⟩:=gK GO;refine G7 e ?_;exact AL (Awy _ _ (kI GO))
def Zo(e:O1)(b:Dty)(GS:Wy):Int->Option ((Int)⊕(Int⊕(HW×Bool)))
 | a=>(CU e.up b.CY).bind λ Nn=>cond (a<(Nn.length:Int)) ((CU Nn a).bind λ R3=>cond (R3.kind=2) (cond (R3.seq=GS.last) (cond (R3.flag=GS.Iw) (some (.inr (.inr ((((⟨3,b.CY,a,[]⟩:HW),true):HW×Bool))))) (some (.inl (i64.wrap (a+1))))) (some (.inl (i64.wrap (a+1))))) (some (.inl (i64.wrap (a+1))))) (some (.inr (.inl a)))
def Zn(g:O1)(f:Dty)(i:KM):Int->Option ((Int)⊕(Int⊕(HW×Bool)))
 | a=>(CU g.down f.CY).bind λ b=>cond (a<(b.length:Int)) ((CU b a).bind λ e=>cond (e.kind=1) (cond (e.seq=i.seq) (some (.inr (.inr ((((⟨2,f.CY,a,[]⟩:HW),true):HW×Bool))))) (some (.inl (i64.wrap (a+1))))) (some (.inl (i64.wrap (a+1))))) (some (.inr (.inl a)))
def LJ(b:O1)(a:Dty):Option (HW×Bool):=
 cond (a.CY<0) (some ((⟨0,0,0,[]⟩:HW),false)) ((IH b).bind λ k=>cond (k<=a.CY) (some ((⟨0,0,0,[]⟩:HW),false)) (cond ((b.down.length:Int)<=a.CY) (some ((⟨0,0,0,[]⟩:HW),false)) (cond ((b.up.length:Int)<=a.CY) (some ((⟨0,0,0,[]⟩:HW),false)) ((CU b.CN a.CY).bind λ l=>(CU b.CX a.CY).bind λ GS=>cond (a.kind=1) ((C9 (Zn b a l) 0).bind (λ | .inl j=>(CU b.down a.CY).bind λ g=>cond (6<=(g.length:Int)) (some ((⟨4,a.CY,0,[]⟩:HW),true)) (some ((⟨8,a.CY,0,[]⟩:HW),true)) | .inr (f)=>some f)) (cond (a.kind=2) (some ((⟨9,a.CY,0,[]⟩:HW),true)) (cond (a.kind=3) (some ((⟨9,a.CY,0,[]⟩:HW),true)) (cond (a.kind=4) (some ((⟨10,a.CY,0,[]⟩:HW),true)) (cond (a.kind=5) ((C9 (Zo b a GS) 0).bind (λ | .inl i=>(CU b.up a.CY).bind λ Mr=>cond (6<=(Mr.length:Int)) (some ((⟨5,a.CY,0,[]⟩:HW),true)) (some ((⟨8,a.CY,0,[]⟩:HW),true)) | .inr (e)=>some e)) (some ((⟨0,0,0,[]⟩:HW),false))))))))))
theorem WM{b n r}(a:LJ b n=some r):
   Rq 42 [.agg [sD (CS b.CP),sD (Dy b.CQ),sD (Dl b.closed),sD (CS b.Dm),sD (CS b.CZ),sD (Ec b.CN),sD (DE b.CR),bD b.C6,sD (Ei b.CV),sD (EB b.CX),sD (C8 b.down),sD (C8 b.up)],.agg n.c] [] [] (.Em [.agg r.1.c,bD r.2]):=by
 refine EC func42 Bfw ?_;unfold LJ at a;obtain ⟨_,a⟩ | ⟨_,a⟩:=cE a
 . refine Eb a RR λ _ a=>?_;obtain ⟨_,a⟩ | ⟨_,a⟩:=cE a
   . obtain ⟨_,a⟩ | ⟨_,a⟩:=cE a
     . obtain ⟨_,a⟩ | ⟨_,a⟩:=cE a
       . refine C4 [2] [0,0,0,0,0,0,0,0,0,0,0,1,1,2,3] ?_;obtain ⟨_,a,_⟩:=jE Da a;obtain ⟨_,a,_⟩:=jE Li a;obtain ⟨_,a⟩ | ⟨_,a⟩:=cE a
         . obtain ⟨_,a⟩ | ⟨_,a⟩:=cE a
           . obtain ⟨_,a⟩ | ⟨_,a⟩:=cE a
             . obtain ⟨_,a⟩ | ⟨_,a⟩:=cE a
               . refine cP a λ _ a=>?_;obtain ⟨o,g,a⟩:=bE a;refine HV g [2,4,6,8] [2,4,8] (λ q=>[(11,iD q)]) (λ _=>[]) ?_;rintro s _ OW Bnt;rw[Zo.eq_1] at OW;obtain ⟨Nn,OW,i,_⟩:=jK Eo OW;obtain ⟨_,OW⟩ | ⟨_,OW⟩:=cK OW
                 . cases kR OW;(try dsimp only at a);refine A ?_;obtain ⟨LG,e,a⟩:=bE a;obtain rfl:LG=Nn:=Bf (e.symm.trans i);have _:=ER e;have _:=Eo e;refine cP a λ _ a=>?_;exact zP a
                 obtain ⟨_,OW,_⟩:=jK Ot OW;obtain ⟨_,OW⟩ | ⟨_,OW⟩:=cK OW
                 . exact AL (Bnt _ _ (kI OW))
                 obtain ⟨_,OW⟩ | ⟨_,OW⟩:=cK OW
                 . exact AL (Bnt _ _ (kI OW))
                 obtain ⟨_,OW⟩ | ⟨_,OW⟩:=cK OW
                 . exact AL (Bnt _ _ (kI OW))
                 cases kR OW;exact zP a
               exact zP a
             exact zP a
           exact zP a
         obtain ⟨p,j,a⟩:=bE a;refine HV j [2,4,6,7] [2,4,7] (λ q=>[(9,iD q)]) (λ _=>[]) ?_;rintro t _ Sd Brh;rw[Zn.eq_1] at Sd;obtain ⟨l,Sd,k,_⟩:=jK Eo Sd;obtain ⟨_,Sd⟩ | ⟨_,Sd⟩:=cK Sd
         . cases kR Sd;(try dsimp only at a);refine A ?_;obtain ⟨m,f,a⟩:=bE a;obtain rfl:m=l:=Bf (f.symm.trans k);have _:=ER f;have _:=Eo f;refine cP a λ _ a=>?_;exact zP a
         obtain ⟨_,Sd,_⟩:=jK Ot Sd;obtain ⟨_,Sd⟩ | ⟨_,Sd⟩:=cK Sd
         . exact AL (Brh _ _ (kI Sd))
         obtain ⟨_,Sd⟩ | ⟨_,Sd⟩:=cK Sd
         . exact AL (Brh _ _ (kI Sd))
         cases kR Sd;exact zP a
       exact zP a
     exact zP a
   exact zP a
 exact zP a
def LI(b:Int)(a:Int):Option (Int):=
 cond (a<=1) (some 0) (cond (¬a=0) (cond ((Int.tmod b a)<0) (some (i64.wrap ((Int.tmod b a)+a))) (some (Int.tmod b a))) none)
theorem WL{b e r}(a:LI b e=some r):
   Rq 33 [iD b,iD e] [] [] (iD r):=by
 refine EC func33 Adp ?_;unfold LI at a;obtain ⟨_,a⟩ | ⟨_,a⟩:=cE a
 . obtain ⟨f,a⟩:=gE a;have _:=Bg f;refine cP a λ _ a=>?_;exact zP a
 exact zP a
def Dh(b:Aa)(a:Int)(e:Int):Option (Int×Aa×Int):=
 cond (a<(b.length:Int)) ((CU b a).bind λ g=>(LI g e).bind λ i=>some (i,b,(i64.wrap (a+1)))) ((LI (Int.tmod (i64.wrap (a*7)) 11) e).bind λ f=>some (f,b,(i64.wrap (a+1))))
theorem Dw{b e f r}(a:Dh b e f=some r):
   Rq 14 [.ptr 1000000 0,iD f] [(1000000,.box [sD (CS b),iD e])] [(1000000,.box [sD (CS r.2.1),iD r.2.2])] (iD r.1):=by
 refine EC func14 Adr ?_;unfold Dh at a;refine Dd [0,0,0,0,0,0,0,0,0,0] ?_;obtain ⟨_,a⟩ | ⟨_,a⟩:=cE a
 . refine Eb a WL λ _ a=>?_;exact zO a
 refine Dd [0,0,0,0,0,0,0,0,0,0,0] ?_;obtain ⟨_,a,_⟩:=jE Dk a;refine Eb a WL λ _ a=>?_;exact zO a
def Jg(e:Aa)(f:Int)(b:O1)(g:Bool):Option (HW×Aa×Int):=
 (Dh e f (10:Int)).bind λ (x1,x2,x3)=>(CU ([2,3,4,5,6,7,8,9,10,11]:Aa) x1).bind λ a=>cond (a=11) (cond g ((Dh x2 x3 4).bind λ (G8,OP,Nn)=>cond (0<G8) ((Dh OP Nn (i64.wrap ((b.CV.length:Int)+1))).bind λ (Wz,Sl,KO)=>some ((⟨8,Wz,0,[]⟩:HW),Sl,KO)) ((Dh OP Nn (i64.wrap ((b.CV.length:Int)+1))).bind λ (O4,OK,LG)=>cond (a<8) ((Dh OK LG 3).bind λ (NC,Yi,R3)=>some ((⟨a,O4,NC,[]⟩:HW),Yi,R3)) (some ((⟨a,O4,0,[]⟩:HW),OK,LG)))) ((Dh x2 x3 (i64.wrap ((b.CV.length:Int)+1))).bind λ (I6,Fo,PY)=>some ((⟨8,I6,0,[]⟩:HW),Fo,PY))) ((Dh x2 x3 (i64.wrap ((b.CV.length:Int)+1))).bind λ (GS,Jr,Lq)=>cond (a<8) ((Dh Jr Lq 3).bind λ (JD,HB,RO)=>some ((⟨a,GS,JD,[]⟩:HW),HB,RO)) (some ((⟨a,GS,0,[]⟩:HW),Jr,Lq)))
theorem Rl{f g b i r}(a:Jg f g b i=some r):
   Rq 22 [.ptr 1000000 0,.agg [sD (CS b.CP),sD (Dy b.CQ),sD (Dl b.closed),sD (CS b.Dm),sD (CS b.CZ),sD (Ec b.CN),sD (DE b.CR),bD b.C6,sD (Ei b.CV),sD (EB b.CX),sD (C8 b.down),sD (C8 b.up)],bD i] [(1000000,.box [sD (CS f),iD g])] [(1000000,.box [sD (CS r.2.1),iD r.2.2])] (.agg r.1.c):=by
 refine EC func22 Bg7 ?_;unfold Jg at a;refine Eb a Dw ?_;rintro ⟨e,_,_⟩ a;obtain ⟨m,j,a⟩:=bE a;have _:0<=e/\e<10:=by have:=ER j;simp only[Br,Bx] at this;omega
 have k:(CS [2,3,4,5,6,7,8,9,10,11]).getD (Int.toNat e) []=[(.int .i64 m)]:=D3 _ j;have l:=k;try simp only[Gb,F5,F9,Hg,F8,Hf,Gi,Hh,HA,FA,Hj,Hk,TP,Bv] at l
 obtain ⟨_,a⟩ | ⟨_,a⟩:=cE a
 . refine Eb a Dw ?_;rintro ⟨_,_,_⟩ a;refine cO a λ _ a=>?_;refine Eb a Dw ?_;rintro ⟨_,_,_⟩ a;exact zO a
 obtain ⟨_,a⟩ | ⟨_,a⟩:=cE a
 . refine Eb a Dw ?_;rintro ⟨_,_,_⟩ a;exact zO a
 refine Eb a Dw ?_;rintro ⟨_,_,_⟩ a;obtain ⟨_,a⟩ | ⟨_,a⟩:=cE a
 . refine Eb a Dw ?_;rintro ⟨_,_,_⟩ a;refine cO a λ _ a=>?_;refine Eb a Dw ?_;rintro ⟨_,_,_⟩ a;exact zO a
 refine Eb a Dw ?_;rintro ⟨_,_,_⟩ a;exact zO a
theorem Ba9(l)(i)(v0)(v1)(v2)(v3)(v4)(v5)(v6)(v7)(v8)(v9)(v11)(v12):(Ec l).set i [.int .i64 v0,.bool v1,.int .i64 v2,.int .i64 v3,.int .i64 v4,.int .u64 v5,.bool v6,.bool v7,.int .i64 v8,.int .i64 v9,.sl [],.int .i64 v11,.int .i64 v12]=Ec (l.set i ⟨v0,v1,v2,v3,v4,v5,v6,v7,v8,v9,[],v11,v12⟩):=by simp[Ec,F5,BJ]
theorem Asz(l)(v0)(v1)(v2)(v3)(v4)(v5)(v6)(v7)(v8)(v9)(v11)(v12):Ec l++[[.int .i64 v0,.bool v1,.int .i64 v2,.int .i64 v3,.int .i64 v4,.int .u64 v5,.bool v6,.bool v7,.int .i64 v8,.int .i64 v9,.sl [],.int .i64 v11,.int .i64 v12]]=Ec (l++[⟨v0,v1,v2,v3,v4,v5,v6,v7,v8,v9,[],v11,v12⟩]):=by simp[Ec,F5]
theorem At1(l)(v0)(v1)(v2)(v3)(v4)(v5)(v6)(v7)(v8)(v9)(v10)(v11)(v12):Ec l++[[.int .i64 v0,.bool v1,.int .i64 v2,.int .i64 v3,.int .i64 v4,.int .u64 v5,.bool v6,.bool v7,.int .i64 v8,.int .i64 v9,.sl [[.int .i64 v10]],.int .i64 v11,.int .i64 v12]]=Ec (l++[⟨v0,v1,v2,v3,v4,v5,v6,v7,v8,v9,[v10],v11,v12⟩]):=by simp[Ec,CS]
theorem Bab(l)(i)(v0)(v1)(v2)(v3)(v4)(v5)(v6)(v7)(v8)(v9)(v10)(v11)(v12):(Ec l).set i [.int .i64 v0,.bool v1,.int .i64 v2,.int .i64 v3,.int .i64 v4,.int .u64 v5,.bool v6,.bool v7,.int .i64 v8,.int .i64 v9,.sl [[.int .i64 v10]],.int .i64 v11,.int .i64 v12]=Ec (l.set i ⟨v0,v1,v2,v3,v4,v5,v6,v7,v8,v9,[v10],v11,v12⟩):=by simp[Ec,CS,BJ]
attribute [go_sem] Ba9 Asz At1 Bab
def GJ(a:DX)(b:Int)(k:Int):Option (Aa×Ab×Ah×Ak):=
 (CU a.CN b).bind λ e=>(Hz {a with CN:=a.CN.set b.toNat {e with EH:=0}} 23 b k).bind λ i=>(CU (a.CN.set b.toNat {e with EH:=0}) b).bind λ f=>(IK f).bind λ Jr=>(NT (⟨a.blocks,a.next,a.CT,a.C7,a.cq,a.ca,a.cd,a.cp⟩:Nt) (⟨a.closed,a.Dm,a.CZ⟩:Mc) Jr k).bind λ (I7,Jp)=>cond Jp ((CU ((a.CN.set b.toNat {e with EH:=0}).set b.toNat {f with Db:=[]}) b).bind λ g=>(K6 (⟨a.CP,a.CQ⟩:KI) b).bind λ TZ=>cond (0<=TZ) ((CU (((a.CN.set b.toNat {e with EH:=0}).set b.toNat {f with Db:=[]}).set b.toNat {g with Db:=I7}) b).bind λ UR=>cond ((UR.Db.length:Int)=0) ((GR {a with CN:=((a.CN.set b.toNat {e with EH:=0}).set b.toNat {f with Db:=[]}).set b.toNat {g with Db:=I7},CO:=i} b).bind λ (UQ,x70,x71,x72)=>some (UQ,x70,x71,x72)) ((CU UR.Db 0).bind λ j=>cond (j=TZ) (some (a.CP,a.CQ,(((a.CN.set b.toNat {e with EH:=0}).set b.toNat {f with Db:=[]}).set b.toNat {g with Db:=I7}),i)) ((GR {a with CN:=((a.CN.set b.toNat {e with EH:=0}).set b.toNat {f with Db:=[]}).set b.toNat {g with Db:=I7},CO:=i} b).bind λ (x63,TY,x65,x66)=>some (x63,TY,x65,x66)))) (some (a.CP,a.CQ,(((a.CN.set b.toNat {e with EH:=0}).set b.toNat {f with Db:=[]}).set b.toNat {g with Db:=I7}),i))) ((K6 (⟨a.CP,a.CQ⟩:KI) b).bind λ RO=>cond (0<=RO) ((CU ((a.CN.set b.toNat {e with EH:=0}).set b.toNat {f with Db:=[]}) b).bind λ I6=>cond ((I6.Db.length:Int)=0) ((GR {a with CN:=(a.CN.set b.toNat {e with EH:=0}).set b.toNat {f with Db:=[]},CO:=i} b).bind λ (H4,Wz,Sl,KO)=>some (H4,Wz,Sl,KO)) ((CU I6.Db 0).bind λ Nn=>cond (Nn=RO) (some (a.CP,a.CQ,((a.CN.set b.toNat {e with EH:=0}).set b.toNat {f with Db:=[]}),i)) ((GR {a with CN:=(a.CN.set b.toNat {e with EH:=0}).set b.toNat {f with Db:=[]},CO:=i} b).bind λ (LG,KP,O3,NC)=>some (LG,KP,O3,NC)))) (some (a.CP,a.CQ,((a.CN.set b.toNat {e with EH:=0}).set b.toNat {f with Db:=[]}),i)))
theorem FY{b k l r}(a:GJ b k l=some r):
   Rq 144 [.ptr 1000000 0,iD k,iD l] (DX.h b) (DX.h ({b with CP:=r.1,CQ:=r.2.1,CN:=r.2.2.1,CO:=r.2.2.2})) (.Em []):=by
 refine EC func144 Az6 ?_;unfold GJ at a;obtain ⟨_,a,_⟩:=jE Da a;refine Eb a F6 λ _ a=>?_;refine Hs [0,10,20,30,40,50,60,70,80,90,100,110,130,122,142,150,160,170,180,190] ?_;obtain ⟨_,a,_,m,_⟩:=jE Da a;have _:=sl m;refine FH a Kr λ _ a=>?_;refine FH a Abf ?_;rintro ⟨_,_⟩ a;obtain ⟨_,a⟩ | ⟨_,a⟩:=cE a
 . refine Eb a LR λ _ a=>?_;refine cO a λ _ a=>?_;obtain ⟨I6,a,_,e,_⟩:=jE Da a;have _:=sl e;obtain ⟨_,a⟩ | ⟨_,a⟩:=cE a
   . obtain ⟨_,a,i,_⟩:=iE a;have _:(CS I6.Db).getD 0 []=_:=Dk i;obtain ⟨_,a⟩ | ⟨_,a⟩:=cE a
     . refine Eb a HU ?_;rintro ⟨_,_,_,_⟩ a;exact zO a
     exact zO a
   refine Eb a HU ?_;rintro ⟨_,_,_,_⟩ a;exact zO a
 obtain ⟨_,a,_,f,_⟩:=jE Da a;have _:=sl f;refine Eb a LR λ _ a=>?_;refine cO a λ _ a=>?_;obtain ⟨UR,a,_,g,_⟩:=jE Da a;have _:=sl g;obtain ⟨_,a⟩ | ⟨_,a⟩:=cE a
 . obtain ⟨_,a,j,_⟩:=iE a;have _:(CS UR.Db).getD 0 []=_:=Dk j;obtain ⟨_,a⟩ | ⟨_,a⟩:=cE a
   . refine Eb a HU ?_;rintro ⟨_,_,_,_⟩ a;exact zO a
   exact zO a
 refine Eb a HU ?_;rintro ⟨_,_,_,_⟩ a;exact zO a
def FZ(a:DX)(b:Int):Option (Aa×Ab×Ah×Ak):=
 (CU a.CN b).bind λ e=>(CU (a.CN.set b.toNat {e with DY:=(-1)}) b).bind λ f=>(IK f).bind λ JJ=>(K1 (⟨a.blocks,a.next,a.CT,a.C7,a.cq,a.ca,a.cd,a.cp⟩:Nt) JJ).bind λ Jr=>cond (0<=Jr) ((GR {a with CN:=(a.CN.set b.toNat {e with DY:=(-1)}).set b.toNat {f with Du:=0}} b).bind λ (H4,Wz,Sl,KO)=>cond (Sl.length=a.CN.length) ((CU Sl b).bind λ g=>(IK g).bind λ i=>(K0 (⟨a.blocks,a.next,a.CT,a.C7,a.cq,a.ca,a.cd,a.cp⟩:Nt) i).bind λ NB=>some (H4,Wz,(Sl.set b.toNat {g with Db:=NB}),KO)) none) ((CU ((a.CN.set b.toNat {e with DY:=(-1)}).set b.toNat {f with Du:=3}) b).bind λ Jp=>cond (0<=Jp.Eu) ((GJ {a with CN:=(a.CN.set b.toNat {e with DY:=(-1)}).set b.toNat {f with Du:=3}} b Jp.Eu).bind λ (LG,KP,O3,NC)=>some (LG,KP,O3,NC)) ((CU (((a.CN.set b.toNat {e with DY:=(-1)}).set b.toNat {f with Du:=3}).set b.toNat {Jp with EH:=0}) b).bind λ I6=>(GR {a with CN:=(((a.CN.set b.toNat {e with DY:=(-1)}).set b.toNat {f with Du:=3}).set b.toNat {Jp with EH:=0}).set b.toNat {I6 with Db:=[]}} b).bind λ (OP,Nn,ON,T0)=>some (OP,Nn,ON,T0)))
theorem HT{b i r}(a:FZ b i=some r):
   Rq 179 [.ptr 1000000 0,iD i] (DX.h b) (DX.h ({b with CP:=r.1,CQ:=r.2.1,CN:=r.2.2.1,CO:=r.2.2.2})) (.Em []):=by
 refine EC func179 Ayc ?_;unfold FZ at a;obtain ⟨_,a,_⟩:=jE Da a;refine Dd [0,0,0,0,0,0,0,2,2,0] ?_;obtain ⟨_,a,_,k,_⟩:=jE Da a;have _:=sl k;refine FH a Kr λ _ a=>?_;refine FH a NQ λ _ a=>?_;obtain ⟨_,a⟩ | ⟨_,a⟩:=cE a
 . obtain ⟨_,a,_,f,_⟩:=jE Da a;have _:=sl f;obtain ⟨_,a⟩ | ⟨_,a⟩:=cE a
   . obtain ⟨_,a,_,g,_⟩:=jE Da a;have _:=sl g;refine Eb a HU ?_;rintro ⟨_,_,_,_⟩ a;exact zO a
   refine Eb a FY ?_;rintro ⟨_,_,_,_⟩ a;exact zO a
 refine Eb a HU ?_;rintro ⟨_,_,Sl,_⟩ a;refine C4 [1000000,1000001] [0,0,0,0,0,0,0,0,2,2,0,0,3] ?_;obtain ⟨e,a⟩:=gE a;have j:(b.CN.length=Sl.length)=True:=eq_true (Bg e).symm;obtain ⟨_,a,_⟩:=jE Da a;refine FH a Kr λ _ a=>?_;refine FH a NP λ _ a=>?_;exact zO a
def Za(a:DX)(b:Int)(f:Int)(i:Int):Option (Aa×Ab×Ah×Ao×Ak):=
 (Hz a i b 0).bind λ g=>(CU a.CR b).bind λ e=>cond (e.state=1) ((CU (a.CR.set b.toNat {e with state:=f}) b).bind λ Sj=>(FZ {a with CR:=a.CR.set b.toNat {e with state:=f},CO:=g} Sj.CY).bind λ (G8,OP,Nn,ON)=>some (G8,OP,Nn,(a.CR.set b.toNat {e with state:=f}),ON)) (cond (e.state=2) ((CU (a.CR.set b.toNat {e with state:=f}) b).bind λ j=>(FZ {a with CR:=a.CR.set b.toNat {e with state:=f},CO:=g} j.CY).bind λ (I7,Jp,JD,HB)=>some (I7,Jp,JD,(a.CR.set b.toNat {e with state:=f}),HB)) (some (a.CP,a.CQ,a.CN,(a.CR.set b.toNat {e with state:=f}),g)))
theorem Aej{b g i j r}(a:Za b g i j=some r):
   Rq 174 [.ptr 1000000 0,iD g,iD i,iD j] (DX.h b) (DX.h ({b with CP:=r.1,CQ:=r.2.1,CN:=r.2.2.1,CR:=r.2.2.2.1,CO:=r.2.2.2.2})) (.Em []):=by
 refine EC func174 Ayh ?_;unfold Za at a;refine Eb a F6 λ _ a=>?_;obtain ⟨_,a,_⟩:=jE EF a;obtain ⟨_,a⟩ | ⟨_,a⟩:=cE a
 . refine cO a λ _ a=>?_;obtain ⟨_,a,_,e,_⟩:=jE EF a;have _:=sl e;refine Eb a HT ?_;rintro ⟨_,_,_,_⟩ a;exact zO a
 obtain ⟨_,a,_,f,_⟩:=jE EF a;have _:=sl f;refine Eb a HT ?_;rintro ⟨_,_,_,_⟩ a;exact zO a
def QN(a:DX)(b:Int):Option (Aa×Ab×Ah):=
 (CU a.CN b).bind λ e=>cond (e.E9=(-1)) (some (a.CP,a.CQ,a.CN)) ((Iu (⟨a.CP,a.CQ⟩:KI) e.cell).bind λ (x6,x7)=>(CU (a.CN.set b.toNat {e with cell:=e.E9}) b).bind λ f=>(CU ((a.CN.set b.toNat {e with cell:=e.E9}).set b.toNat {f with E9:=(-1)}) b).bind λ I7=>cond (I7.Du=3) (cond (0<=I7.Eu) ((CU a.CT I7.Eu).bind λ I6=>cond (I7.cell=I6.base) ((CU (((a.CN.set b.toNat {e with cell:=e.E9}).set b.toNat {f with E9:=(-1)}).set b.toNat {I7 with Du:=0}) b).bind λ OP=>(K0 (⟨a.blocks,a.next,a.CT,a.C7,a.cq,a.ca,a.cd,a.cp⟩:Nt) OP.cell).bind λ OK=>some (x6.CP,x6.CQ,((((a.CN.set b.toNat {e with cell:=e.E9}).set b.toNat {f with E9:=(-1)}).set b.toNat {I7 with Du:=0}).set b.toNat {OP with Db:=OK}))) (some (x6.CP,x6.CQ,((a.CN.set b.toNat {e with cell:=e.E9}).set b.toNat {f with E9:=(-1)})))) (some (x6.CP,x6.CQ,((a.CN.set b.toNat {e with cell:=e.E9}).set b.toNat {f with E9:=(-1)})))) (some (x6.CP,x6.CQ,((a.CN.set b.toNat {e with cell:=e.E9}).set b.toNat {f with E9:=(-1)}))))
theorem Apz{b i r}(a:QN b i=some r):
   Rq 128 [.ptr 1000000 0,iD i] (DX.h b) (DX.h ({b with CP:=r.1,CQ:=r.2.1,CN:=r.2.2})) (.Em []):=by
 refine EC func128 Azk ?_;unfold QN at a;obtain ⟨_,a,_⟩:=jE Da a;obtain ⟨_,a⟩ | ⟨_,a⟩:=cE a
 . refine C4 [1000000,1000001] [0,0,0,0,0,0,0,0,0,0,2,0,0,0,0,0,0,4] ?_;refine FH a NY ?_;rintro ⟨_,_⟩ a;obtain ⟨_,a,_,e,_⟩:=jE Da a;have _:=sl e;refine Dd [0,0,0,0,0,0,0,0,0,0,0,0,0,0,0,0,0,0,0,0,0,0,0,0,0,0,0,0,0,0,0] ?_;obtain ⟨_,a,_,f,_⟩:=jE Da a;have _:=sl f;refine cO a λ _ a=>?_;refine cO a λ _ a=>?_;obtain ⟨_,a,_⟩:=jE Ew a;refine cO a λ _ a=>?_;refine C4 [1000000,1000001] [0,0,0,0,0,0,0,0,0,2,0,0,3] ?_;obtain ⟨_,a,_,g,_⟩:=jE Da a;have _:=sl g;refine FH a NP λ _ a=>?_;exact zO a
 exact zO a
def QJ(a:DX)(e:Int):Option (Aa×Ab×Ah×Ao×Ak):=
 (CU a.CN e).bind λ f=>cond f.DG ((CU (a.CN.set e.toNat {f with DG:=false}) e).bind λ b=>cond (b.DY<0) (some (a.CP,a.CQ,(a.CN.set e.toNat {f with DG:=false}),a.CR,a.CO)) (cond (b.Du=1) ((CU a.CR b.DY).bind λ Nn=>(Hz {a with CN:=a.CN.set e.toNat {f with DG:=false},CR:=a.CR.set b.DY.toNat {Nn with state:=2}} 3 b.DY e).bind λ OK=>(CU (a.CR.set b.DY.toNat {Nn with state:=2}) b.DY).bind λ KP=>(GJ {a with CN:=(a.CN.set e.toNat {f with DG:=false}).set e.toNat {b with Du:=2},CR:=a.CR.set b.DY.toNat {Nn with state:=2},CO:=OK} e KP.drop).bind λ (H4,Wz,Sl,KO)=>some (H4,Wz,Sl,(a.CR.set b.DY.toNat {Nn with state:=2}),KO)) (cond (b.Du=2) ((CU a.CR b.DY).bind λ I7=>(Hz {a with CN:=a.CN.set e.toNat {f with DG:=false},CR:=a.CR.set b.DY.toNat {I7 with state:=3}} 4 b.DY e).bind λ RO=>(FZ {a with CN:=a.CN.set e.toNat {f with DG:=false},CR:=a.CR.set b.DY.toNat {I7 with state:=3},CO:=RO} e).bind λ (Sj,I6,Fo,PY)=>some (Sj,I6,Fo,(a.CR.set b.DY.toNat {I7 with state:=3}),PY)) (some (a.CP,a.CQ,(a.CN.set e.toNat {f with DG:=false}),a.CR,a.CO))))) (some (a.CP,a.CQ,a.CN,a.CR,a.CO))
theorem Apm{b f r}(a:QJ b f=some r):
   Rq 129 [.ptr 1000000 0,iD f] (DX.h b) (DX.h ({b with CP:=r.1,CQ:=r.2.1,CN:=r.2.2.1,CR:=r.2.2.2.1,CO:=r.2.2.2.2})) (.Em []):=by
 refine EC func129 Azj ?_;unfold QJ at a;obtain ⟨_,a,_⟩:=jE Da a;refine cO a λ _ a=>?_;obtain ⟨_,a,_,g,_⟩:=jE Da a;have _:=sl g;obtain ⟨_,a⟩ | ⟨_,a⟩:=cE a
 . obtain ⟨_,a⟩ | ⟨_,a⟩:=cE a
   . refine cO a λ _ a=>?_;obtain ⟨_,a,_⟩:=jE EF a;refine Eb a F6 λ _ a=>?_;refine Eb a HT ?_;rintro ⟨_,_,_,_⟩ a;exact zO a
   obtain ⟨_,a,_⟩:=jE EF a;refine Eb a F6 λ _ a=>?_;obtain ⟨_,a,_,e,_⟩:=jE EF a;have _:=sl e;refine Eb a FY ?_;rintro ⟨_,_,_,_⟩ a;exact zO a
 exact zO a
def XX(j:DX):Ah×Ak×Aa×Aa×Ab×Int->Option ((Ah×Ak×Aa×Aa×Ab×Int)⊕((Ah×Ak×Aa×Aa×Ab×Int)))
 | (f,i,g,b,e,a)=>cond (a<(f.length:Int)) ((CU f a).bind λ OL=>cond (OL.state=1) (cond OL.E7 (cond (OL.Du=0) (cond (OL.E9=(-1)) ((GR {j with CP:=b,CQ:=e,CN:=f,CO:=i,DN:=g} a).bind λ (Nn,ON,T0,O4)=>cond (T0.length=f.length) ((CU T0 a).bind λ KP=>(Iu (⟨Nn,ON⟩:KI) KP.cell).bind λ (R3,H4)=>(CU (T0.set a.toNat {KP with cell:=(-1)}) a).bind λ Sl=>(Rz {j with CP:=R3.CP,CQ:=R3.CQ,CN:=(T0.set a.toNat {KP with cell:=(-1)}).set a.toNat {Sl with Db:=[]},CO:=O4,DN:=g} a).bind λ (Mr,Pw)=>cond (g.length+1<10000000) (some (.inl (Mr,Pw,(g++[a]),R3.CP,R3.CQ,(i64.wrap (a+1))))) none) none) (some (.inl (f,i,g,b,e,(i64.wrap (a+1)))))) (some (.inl (f,i,g,b,e,(i64.wrap (a+1)))))) (some (.inl (f,i,g,b,e,(i64.wrap (a+1)))))) (some (.inl (f,i,g,b,e,(i64.wrap (a+1)))))) (some (.inr (f,i,g,b,e,a)))
def MQ(a:DX):Option (Aa×Ab×Ah×Ak×Aa):=
 (C9 (XX a) (a.CN,a.CO,a.DN,a.CP,a.CQ,0)).bind (λ (v50,v51,v52,v53,v54,v55)=>some (v53,v54,v50,v51,v52))
theorem Afz{a r}(b:MQ a=some r):
   Rq 92 [.ptr 1000000 0] (DX.h a) (DX.h ({a with CP:=r.1,CQ:=r.2.1,CN:=r.2.2.1,CO:=r.2.2.2.1,DN:=r.2.2.2.2})) (.Em []):=by
 refine EC func92 Bet ?_;unfold MQ at b;obtain ⟨j,g,b⟩:=bE b;refine HV g [0] [] (λ q=>[(2,iD q.2.2.2.2.2)]) (λ q=>DX.h ({a with CP:=q.2.2.2.1,CQ:=q.2.2.2.2.1,CN:=q.1,CO:=q.2.1,DN:=q.2.2.1})) ?_;rintro ⟨n,o,p,k,l,m⟩ _ ED Acv;rw[XX.eq_1] at ED;obtain ⟨_,ED⟩ | ⟨_,ED⟩:=cK ED
 . cases kR ED;exact zO b
 obtain ⟨_,ED,_⟩:=jK Da ED;obtain ⟨_,ED⟩ | ⟨_,ED⟩:=cK ED
 . exact AL (Acv _ _ (kI ED))
 obtain ⟨_,ED⟩ | ⟨_,ED⟩:=cK ED
 . exact AL (Acv _ _ (kI ED))
 obtain ⟨_,ED⟩ | ⟨_,ED⟩:=cK ED
 . exact AL (Acv _ _ (kI ED))
 obtain ⟨_,ED⟩ | ⟨_,ED⟩:=cK ED
 . exact AL (Acv _ _ (kI ED))
 refine FI ED HU ?_;rintro ⟨_,_,T0,_⟩ ED;refine C4 [1000000,1000001] [0,0,0,0,0,0,0,0,0,0,2,0,0,0,0,0,0,4] ?_;obtain ⟨e,ED⟩:=gK ED;have i:(n.length=T0.length)=True:=eq_true (Bg e).symm;obtain ⟨_,ED,_⟩:=jK Da ED;refine Sh ED NY ?_;rintro ⟨_,_⟩ ED;obtain ⟨_,ED,_,f,_⟩:=jK Da ED;have _:=sl f;refine FI ED Y7 ?_;rintro ⟨_,_⟩ ED;obtain ⟨OZ,ED⟩:=gK ED;refine G7 OZ ?_;exact AL (Acv _ _ (kI ED))
def R1(i:DX):Ah×Ak×Aa×Ab×Int->Option ((Ah×Ak×Aa×Ab×Int)⊕((Ah×Ak×Aa×Ab×Int)))
 | (b,e,f,g,a)=>cond (a<(b.length:Int)) ((CU b a).bind λ HB=>(NK {i with CP:=f,CQ:=g,CN:=b,CO:=e} HB).bind λ (I6,Fo)=>cond Fo (cond (I6=HB.Eu) (some (.inl (b,e,f,g,(i64.wrap (a+1))))) (cond (0<=HB.Eu) ((CU (b.set a.toNat {HB with Du:=3}) a).bind λ Nn=>(GJ {i with CP:=f,CQ:=g,CN:=b.set a.toNat {HB with Du:=3},CO:=e} a Nn.Eu).bind λ (LG,KP,O3,NC)=>some (.inl (O3,NC,LG,KP,(i64.wrap (a+1))))) (some (.inl (b,e,f,g,(i64.wrap (a+1))))))) (some (.inl (b,e,f,g,(i64.wrap (a+1)))))) (some (.inr (b,e,f,g,a)))
def Jl(a:DX):Option (Aa×Ab×Ah×Ak):=
 (C9 (R1 a) (a.CN,a.CO,a.CP,a.CQ,0)).bind (λ (v38,v39,v40,v41,v42)=>some (v40,v41,v38,v39))
theorem Y4{a r}(b:Jl a=some r):
   Rq 93 [.ptr 1000000 0] (DX.h a) (DX.h ({a with CP:=r.1,CQ:=r.2.1,CN:=r.2.2.1,CO:=r.2.2.2})) (.Em []):=by
 refine EC func93 Bes ?_;unfold Jl at b;obtain ⟨g,f,b⟩:=bE b;refine HV f [0] [] (λ q=>[(2,iD q.2.2.2.2)]) (λ q=>DX.h ({a with CP:=q.2.2.1,CQ:=q.2.2.2.1,CN:=q.1,CO:=q.2.1})) ?_;rintro ⟨j,k,l,m,i⟩ _ Dp L1;rw[R1.eq_1] at Dp;obtain ⟨_,Dp⟩ | ⟨_,Dp⟩:=cK Dp
 . cases kR Dp;exact zO b
 obtain ⟨_,Dp,_⟩:=jK Da Dp;refine FI Dp Apx ?_;rintro ⟨_,_⟩ Dp;obtain ⟨_,Dp⟩ | ⟨_,Dp⟩:=cK Dp
 . exact AL (L1 _ _ (kI Dp))
 obtain ⟨_,Dp⟩ | ⟨_,Dp⟩:=cK Dp
 . obtain ⟨_,Dp⟩ | ⟨_,Dp⟩:=cK Dp
   . exact AL (L1 _ _ (kI Dp))
   obtain ⟨_,Dp,_,e,_⟩:=jK Da Dp;have _:=sl e;refine FI Dp FY ?_;rintro ⟨_,_,_,_⟩ Dp;exact AL (L1 _ _ (kI Dp))
 exact AL (L1 _ _ (kI Dp))
def Api(o:DX)(l:Ao)(G8:Int)(KP:Aa)(O3:Ab)(NC:Ah)(KO:KM)(Mr:KM)(NB:KM)(m:KM)(j:Aa):Ak×Ac×Aa×Aa×Int->Option ((Ak×Ac×Aa×Aa×Int)⊕((Ak×Ac×Aa×Aa×Int)))
 | (e,f,g,i,b)=>cond (b<(j.length:Int)) ((CU j b).bind λ k=>(Kg (⟨f,g,i⟩:Mc) k G8).bind λ a=>(Hz {o with CP:=KP,CQ:=O3,closed:=a.closed,Dm:=a.Dm,CZ:=a.CZ,CN:=(((NC.set G8.toNat {KO with state:=2}).set G8.toNat {Mr with Eu:=(-2)}).set G8.toNat {NB with DG:=false}).set G8.toNat {m with Db:=[]},CR:=l,CO:=e} 7 k G8).bind λ n=>some (.inl (n,a.closed,a.Dm,a.CZ,(i64.wrap (b+1))))) (some (.inr (e,f,g,i,b)))
def Aph(g:DX)(i:Aa):Ah×Ao×Ak×Ac×Aa×Aa×Aa×Ab×Int->Option ((Ah×Ao×Ak×Ac×Aa×Aa×Aa×Ab×Int)⊕((Ah×Ao×Ak×Ac×Aa×Aa×Aa×Ab×Int)))
 | (e,a,f,JR,FP,Ho,Ii,Jq,OR)=>cond (OR<(i.length:Int)) ((CU i OR).bind λ G8=>(CU e G8).bind λ T0=>(GR {g with CP:=Ii,CQ:=Jq,closed:=JR,Dm:=FP,CZ:=Ho,CN:=e,CR:=a,CO:=f} G8).bind λ (KP,O3,NC,Yi)=>(Hz {g with CP:=KP,CQ:=O3,closed:=JR,Dm:=FP,CZ:=Ho,CN:=NC,CR:=a,CO:=Yi} 6 G8 0).bind λ H4=>cond (NC.length=e.length) ((CU NC G8).bind λ KO=>(CU (NC.set G8.toNat {KO with state:=2}) G8).bind λ Mr=>(CU ((NC.set G8.toNat {KO with state:=2}).set G8.toNat {Mr with Eu:=(-2)}) G8).bind λ NB=>(CU (((NC.set G8.toNat {KO with state:=2}).set G8.toNat {Mr with Eu:=(-2)}).set G8.toNat {NB with DG:=false}) G8).bind λ b=>(LP (⟨KP,O3⟩:KI) G8).bind λ (x60,x61)=>(C9 (Api g a G8 KP O3 NC KO Mr NB b x60) (H4,JR,FP,Ho,0)).bind (λ (Af7,Vy,Bn6,Bn5,v105)=>(CU ((((NC.set G8.toNat {KO with state:=2}).set G8.toNat {Mr with Eu:=(-2)}).set G8.toNat {NB with DG:=false}).set G8.toNat {b with Db:=[]}) G8).bind λ NL=>cond (0<=NL.DY) ((CU a NL.DY).bind λ Alz=>(Hz {g with CP:=KP,CQ:=O3,closed:=Vy,Dm:=Bn6,CZ:=Bn5,CN:=(((NC.set G8.toNat {KO with state:=2}).set G8.toNat {Mr with Eu:=(-2)}).set G8.toNat {NB with DG:=false}).set G8.toNat {b with Db:=[]},CR:=a.set NL.DY.toNat {Alz with state:=5},CO:=Af7} 5 NL.DY 0).bind λ Aly=>some (.inl ((((((NC.set G8.toNat {KO with state:=2}).set G8.toNat {Mr with Eu:=(-2)}).set G8.toNat {NB with DG:=false}).set G8.toNat {b with Db:=[]}).set G8.toNat {NL with DY:=(-1)}),(a.set NL.DY.toNat {Alz with state:=5}),Aly,Vy,Bn6,Bn5,KP,O3,(i64.wrap (OR+1))))) (some (.inl (((((NC.set G8.toNat {KO with state:=2}).set G8.toNat {Mr with Eu:=(-2)}).set G8.toNat {NB with DG:=false}).set G8.toNat {b with Db:=[]}),a,Af7,Vy,Bn6,Bn5,KP,O3,(i64.wrap (OR+1))))))) none) (some (.inr (e,a,f,JR,FP,Ho,Ii,Jq,OR)))
def Pq(a:DX)(b:Aa):Option (Aa×Ab×Ac×Aa×Aa×Ah×Ao×Ak):=
 (C9 (Aph a b) (a.CN,a.CR,a.CO,a.closed,a.Dm,a.CZ,a.CP,a.CQ,0)).bind (λ (Bn3,Bn2,Bn1,Bqj,Bqi,v124,Bn0,Bqh,v127)=>some (Bn0,Bqh,Bqj,Bqi,v124,Bn3,Bn2,Bn1))
theorem Y3{a p r}(b:Pq a p=some r):
   Rq 133 [.ptr 1000000 0,sD (CS p)] (DX.h a) (DX.h ({a with CP:=r.1,CQ:=r.2.1,closed:=r.2.2.1,Dm:=r.2.2.2.1,CZ:=r.2.2.2.2.1,CN:=r.2.2.2.2.2.1,CR:=r.2.2.2.2.2.2.1,CO:=r.2.2.2.2.2.2.2})) (.Em []):=by
 refine EC func133 Azf ?_;unfold Pq at b;obtain ⟨t,k,b⟩:=bE b;refine HV k [0,1] [] (λ q=>[(4,iD q.2.2.2.2.2.2.2.2)]) (λ q=>DX.h ({a with CP:=q.2.2.2.2.2.2.1,CQ:=q.2.2.2.2.2.2.2.1,closed:=q.2.2.2.1,Dm:=q.2.2.2.2.1,CZ:=q.2.2.2.2.2.1,CN:=q.1,CR:=q.2.1,CO:=q.2.2.1})) ?_;rintro ⟨m,n,v,JR,FP,Ho,Ii,Jq,OR⟩ _ GM Bjf;rw[Aph.eq_1] at GM;obtain ⟨_,GM⟩ | ⟨_,GM⟩:=cK GM
 . cases kR GM;exact zO b
 obtain ⟨G8,GM,_⟩:=jK Dk GM;obtain ⟨_,GM,_⟩:=jK Da GM;refine FI GM HU ?_;rintro ⟨KP,O3,NC,_⟩ GM;refine FI GM F6 λ _ GM=>?_;obtain ⟨e,GM⟩:=gK GM;have s:(m.length=NC.length)=True:=eq_true (Bg e).symm;obtain ⟨KO,GM,_⟩:=jK Da GM;obtain ⟨Mr,GM,_,f,_⟩:=jK Da GM;have _:=sl f;obtain ⟨NB,GM,_,g,_⟩:=jK Da GM;have _:=sl g;obtain ⟨o,GM,_,i,_⟩:=jK Da GM;have _:=sl i;refine FI GM WZ ?_;rintro ⟨_,_⟩ GM;obtain ⟨u,l,GM⟩:=bK GM;refine HV l [0,1,4,5,6,7] [] (λ q=>[(9,iD q.2.2.2.2)]) (λ q=>DX.h ({a with CP:=KP,CQ:=O3,closed:=q.2.1,Dm:=q.2.2.1,CZ:=q.2.2.2.1,CN:=((((NC.set (Int.toNat G8) ({KO with state:=2}:KM)).set (Int.toNat G8) ({Mr with Eu:=(-2)}:KM)).set (Int.toNat G8) ({NB with DG:=false}:KM)).set (Int.toNat G8) ({o with Db:=[]}:KM)),CR:=n,CO:=q.1})) ?_;rintro ⟨w,x,y,z,B⟩ _ Aah By7;rw[Api.eq_1] at Aah;obtain ⟨_,Aah⟩ | ⟨_,Aah⟩:=cK Aah
 . cases kR Aah;obtain ⟨_,GM,_,j,_⟩:=jK Da GM;have _:=sl j;obtain ⟨_,GM⟩ | ⟨_,GM⟩:=cK GM
   . exact AL (Bjf _ _ (kI GM))
   obtain ⟨_,GM,_⟩:=jK EF GM;refine FI GM F6 λ _ GM=>?_;exact AL (Bjf _ _ (kI GM))
 refine C4 [1000000] [0,0,0,0,0,0,0,0,0,0,0,2,0,0,0,3] ?_;obtain ⟨_,Aah,_⟩:=jK Dk Aah;refine Sh Aah Q0 λ _ Aah=>?_;refine FI Aah F6 λ _ Aah=>?_;exact AL (By7 _ _ (kI Aah))
def X4(j:DX)(b:Int):Ac×Int->Option ((Ac×Int)⊕((Ac×Int)))
 | (e,a)=>cond (a<(j.CR.length:Int)) ((CU e b).bind λ f=>cond f (some (.inl ((e.set b.toNat true),(i64.wrap (a+1))))) ((CU j.CR a).bind λ g=>(NH g b).bind λ i=>some (.inl ((e.set b.toNat i),(i64.wrap (a+1)))))) (some (.inr (e,a)))
def X3(b:DX):Ac×Int->Option ((Ac×Int)⊕((Ac×Int)))
 | (J7,a)=>cond (a<(b.CT.length:Int)) ((C9 (X4 b a) (J7,0)).bind (λ (v72,v73)=>some (.inl (v72,(i64.wrap (a+1)))))) (some (.inr (J7,a)))
def Lj(a:DX)(b:KM):Ac×Int->Option ((Ac×Int)⊕((Ac×Int)))
 | (Af7,Vy)=>cond (Vy<2) (cond (b.state=1) ((CU ([b.cell,b.E9]:Aa) Vy).bind λ Sn=>cond (Sn<0) (some (.inl (Af7,(i64.wrap (Vy+1))))) ((Ff (⟨a.blocks,a.next,a.CT,a.C7,a.cq,a.ca,a.cd,a.cp⟩:Nt) Sn).bind λ (Aly,Bbz)=>cond (0<=Aly) ((CU Af7 Aly).bind λ Bq8=>some (.inl ((Af7.set Aly.toNat true),(i64.wrap (Vy+1))))) (some (.inl (Af7,(i64.wrap (Vy+1))))))) (some (.inr (Af7,Vy)))) (some (.inr (Af7,Vy)))
def X2(e:DX):Ac×Ab×Int->Option ((Ac×Ab×Int)⊕((Ac×Ab×Int)))
 | (OR,MZ,b)=>cond (b<(e.CN.length:Int)) ((CU e.CN b).bind λ a=>(E5 a).bind λ f=>cond f (cond (MZ.length+1<10000000) (cond (0<=a.Eu) ((CU OR a.Eu).bind λ Bic=>(C9 (Lj e a) ((OR.set a.Eu.toNat true),0)).bind (λ (Bx0,v156)=>some (.inl (Bx0,(MZ++[a.Db]),(i64.wrap (b+1)))))) ((C9 (Lj e a) (OR,0)).bind (λ (v124,Bn0)=>some (.inl (v124,(MZ++[a.Db]),(i64.wrap (b+1))))))) none) (some (.inl (OR,MZ,(i64.wrap (b+1)))))) (some (.inr (OR,MZ,b)))
def X1(a:DX):Ak×Ac×Aa×Aa->Option ((Ak×Ac×Aa×Aa)⊕((Ac×Aa×Aa×Ak)))
 | (g,e,f,b)=>cond (a.CT.length<10000000) ((C9 (X2 a) ((List.replicate a.CT.length false),[],0)).bind (λ (v157,Bwz,v159)=>(C9 (X3 a) (v157,0)).bind (λ (Bwr,v208)=>(NX (⟨a.blocks,a.next,a.CT,a.C7,a.cq,a.ca,a.cd,a.cp⟩:Nt) (⟨e,f,b⟩:Mc) (⟨a.CP,a.CQ⟩:KI) Bwz Bwr).bind λ Bm0=>cond Bm0 ((CU b 0).bind λ Als=>(MT {a with closed:=e,Dm:=f,CZ:=b,CO:=g} Als).bind λ Bib=>cond Bib ((Kg (⟨e,f,b⟩:Mc) Als (-1)).bind λ Avl=>(Hz {a with closed:=Avl.closed,Dm:=Avl.Dm,CZ:=Avl.CZ,CO:=g} 7 Als (-1)).bind λ Bvc=>some (.inl (Bvc,Avl.closed,Avl.Dm,Avl.CZ))) (some (.inr ((e,f,b,g):Ac×Aa×Aa×Ak)))) (some (.inr ((e,f,b,g):Ac×Aa×Aa×Ak)))))) none
def MU(a:DX):Option (Ac×Aa×Aa×Ak):=
 (C9 (X1 a) (a.CO,a.closed,a.Dm,a.CZ)).bind (λ Bxy=>some Bxy)
theorem Ag3{a r}(k:MU a=some r):
   Rq 91 [.ptr 1000000 0] (DX.h a) (DX.h ({a with closed:=r.1,Dm:=r.2.1,CZ:=r.2.2.1,CO:=r.2.2.2})) (.Em []):=by
 refine EC func91 Beu ?_;unfold MU at k;obtain ⟨E,s,k⟩:=bE k;refine HV s [0] [] (λ _=>[]) (λ q=>DX.h ({a with closed:=q.2.1,Dm:=q.2.2.1,CZ:=q.2.2.2,CO:=q.1})) ?_;rintro ⟨l,m,n,e⟩ _ EU MK;rw[X1.eq_1] at EU;obtain ⟨o,EU⟩:=gK EU;refine G7 o ?_;obtain ⟨H,u,EU⟩:=bK EU;refine A ?_;refine E0 u (λ q=>⟨[(0,.ptr 1000000 0),(2,rD 45 q.2.1),(3,rD 19 q.1),(4,iD q.2.2)],(DX.h ({a with closed:=m,Dm:=n,CZ:=e,CO:=l})++[(19,.arr 4 1 (Dl q.1)),(45,.arr 23 1 (Dy q.2.1))]),181⟩) ((Wk.nil (t:=2) (q:=45) (sz:=1) 23 rfl rfl AV).trans Wr) ?_;rintro ⟨OR,MZ,N⟩ _ EI Ant;rw[X2.eq_1] at EI;obtain ⟨_,EI⟩ | ⟨_,EI⟩:=cK EI
 . cases kR EI;obtain ⟨I,v,EU⟩:=bK EU;refine HV v [0,2] [45] (λ q=>[(3,rD 19 q.1),(10,iD q.2)]) (λ q=>DX.h ({a with closed:=m,Dm:=n,CZ:=e,CO:=l})++[(19,.arr 4 1 (Dl q.1))]) ?_;rintro ⟨J7,Q⟩ _ E1 Afn;rw[X3.eq_1] at E1;obtain ⟨_,E1⟩ | ⟨_,E1⟩:=cK E1
   . cases kR E1;(try dsimp only at EU);refine Dd [0,0,0,0,0,0,0,0,0,0,0,0,0,0,0,0,2,0,0,0,0,0,0,0,0,0,0,0,2,0,0] ?_;obtain ⟨_,w,EU⟩:=bK EU;refine A ?_;refine GhB (Aji w) ?_;obtain ⟨_,EU⟩ | ⟨_,EU⟩:=cK EU
     . cases kR EU;exact zO k
     obtain ⟨_,EU,x,_⟩:=iK EU;have _:(CS e).getD 0 []=_:=Dk x;refine Sh EU Ag1 λ _ EU=>?_;obtain ⟨_,EU⟩ | ⟨_,EU⟩:=cK EU
     . cases kR EU;exact zO k
     refine FI EU Q0 λ _ EU=>?_;refine FI EU F6 λ _ EU=>?_;exact AL (MK _ _ (kI EU))
   obtain ⟨K,y,E1⟩:=bK E1;refine HV y [0,2,10] [45] (λ q=>[(3,rD 19 q.1),(11,iD q.2)]) (λ q=>DX.h ({a with closed:=m,Dm:=n,CZ:=e,CO:=l})++[(19,.arr 4 1 (Dl q.1))]) ?_;rintro ⟨R,S⟩ _ Jh Bdc;rw[X4.eq_1] at Jh;obtain ⟨_,Jh⟩ | ⟨_,Jh⟩:=cK Jh
   . cases kR Jh;exact AL (Afn _ _ (kI E1))
   obtain ⟨_,Jh,_⟩:=jK DZ Jh;obtain ⟨_,Jh⟩ | ⟨_,Jh⟩:=cK Jh
   . obtain ⟨_,Jh,_⟩:=jK EF Jh;refine FI Jh Zt λ _ Jh=>?_;exact AL (Bdc _ _ (kI Jh))
   exact AL (Bdc _ _ (kI Jh))
 obtain ⟨b,EI,_⟩:=jK Da EI;refine FI EI GG λ _ EI=>?_;obtain ⟨_,EI⟩ | ⟨_,EI⟩:=cK EI
 . exact AL (Ant _ _ (kI EI))
 obtain ⟨p,EI⟩:=gK EI;refine G7 p ?_;obtain ⟨_,EI⟩ | ⟨_,EI⟩:=cK EI
 . obtain ⟨z,Bzx,EI⟩:=bK EI;refine HV Bzx [0,2,4,5,6] [5,45,57] (λ q=>[(3,rD 19 q.1),(7,iD q.2)]) (λ q=>DX.h ({a with closed:=m,Dm:=n,CZ:=e,CO:=l})++[(19,.arr 4 1 (Dl q.1))]) ?_;rintro ⟨Af7,Vy⟩ _ I0 Bdf;rw[Lj.eq_1] at I0;obtain ⟨_,I0⟩ | ⟨_,I0⟩:=cK I0
   . cases kR I0;exact AL (Ant _ _ (kI EI))
   obtain ⟨_,I0⟩ | ⟨_,I0⟩:=cK I0
   . cases kR I0;exact AL (Ant _ _ (kI EI))
   obtain ⟨Sn,Bso,I0⟩:=bK I0;have _:0<=Vy/\Vy<2:=by have:=ER Bso;simp only[Br,Bx] at this;omega
   have f:(CS [b.cell,b.E9]).getD (Int.toNat Vy) []=[(.int .i64 Sn)]:=D3 _ Bso;have g:=f;(try simp only[Gb,F5,F9,Hg,F8,Hf,Gi,Hh,HA,FA,Hj,Hk,TP,Bv] at g);obtain ⟨_,I0⟩ | ⟨_,I0⟩:=cK I0
   . refine Dd [0,0,0,0,0,0,0,0,2,0,0,0,0,0] ?_;refine Sh I0 FV ?_;rintro ⟨_,_⟩ I0;obtain ⟨_,I0⟩ | ⟨_,I0⟩:=cK I0
     . exact AL (Bdf _ _ (kI I0))
     obtain ⟨_,I0,_⟩:=jK DZ I0;exact AL (Bdf _ _ (kI I0))
   exact AL (Bdf _ _ (kI I0))
 obtain ⟨_,EI,_⟩:=jK DZ EI;obtain ⟨B,Bzv,EI⟩:=bK EI;refine HV Bzv [0,2,4,5,6] [5,45,57] (λ q=>[(3,rD 19 q.1),(7,iD q.2)]) (λ q=>DX.h ({a with closed:=m,Dm:=n,CZ:=e,CO:=l})++[(19,.arr 4 1 (Dl q.1))]) ?_;rintro ⟨Bx1,Bih⟩ _ IZ Bde;rw[Lj.eq_1] at IZ;obtain ⟨_,IZ⟩ | ⟨_,IZ⟩:=cK IZ
 . cases kR IZ;exact AL (Ant _ _ (kI EI))
 obtain ⟨_,IZ⟩ | ⟨_,IZ⟩:=cK IZ
 . cases kR IZ;exact AL (Ant _ _ (kI EI))
 obtain ⟨Vw,Bsm,IZ⟩:=bK IZ;have _:0<=Bih/\Bih<2:=by have:=ER Bsm;simp only[Br,Bx] at this;omega
 have i:(CS [b.cell,b.E9]).getD (Int.toNat Bih) []=[(.int .i64 Vw)]:=D3 _ Bsm;have j:=i;try simp only[Gb,F5,F9,Hg,F8,Hf,Gi,Hh,HA,FA,Hj,Hk,TP,Bv] at j
 obtain ⟨_,IZ⟩ | ⟨_,IZ⟩:=cK IZ
 . refine Dd [0,0,0,0,0,0,0,0,2,0,0,0,0,0] ?_;refine Sh IZ FV ?_;rintro ⟨_,_⟩ IZ;obtain ⟨_,IZ⟩ | ⟨_,IZ⟩:=cK IZ
   . exact AL (Bde _ _ (kI IZ))
   obtain ⟨_,IZ,_⟩:=jK DZ IZ;exact AL (Bde _ _ (kI IZ))
 exact AL (Bde _ _ (kI IZ))
def KS(b:DX)(a:KM):Option (Int):=
 cond (a.Du=3) (some a.Eu) (cond (a.Du=1) (cond (0<=a.DY) ((CU b.CR a.DY).bind λ GS=>some GS.pick) (cond (a.Du=2) (some (-1)) (some (-1)))) (cond (a.Du=2) (cond (0<=a.DY) ((CU b.CR a.DY).bind λ e=>some e.drop) (some (-1))) (some (-1))))
theorem UC{b e r}(a:KS b e=some r):
   Rq 149 [.ptr 1000000 0,.agg e.c] (DX.h2 b) (DX.h2 b) (iD r):=by
 refine EC func149 Ahr ?_;unfold KS at a;obtain ⟨_,a⟩ | ⟨_,a⟩:=cE a
 . obtain ⟨_,a⟩ | ⟨_,a⟩:=cE a
   . refine cO a λ _ a=>?_;refine cO a λ _ a=>?_;refine Dd [0,0,0,0,0,0,0,0,0,0,0] ?_;obtain ⟨_,a,_⟩:=jE EF a;exact zO a
   obtain ⟨_,a⟩ | ⟨_,a⟩:=cE a
   . refine cO a λ _ a=>?_;exact zO a
   refine Dd [0,0,0,0,0,0,0,0,0,0,0] ?_;obtain ⟨_,a,_⟩:=jE EF a;exact zO a
 exact zO a
def G3(a:DX)(b:Int)(e:Int)(f:Int):Option Ak:=
 cond (a.CO.length+1<10000000) (some (a.CO++[(⟨0,b,e,f⟩:Ety)])) none
theorem Is{b e f g r}(a:G3 b e f g=some r):
   Rq 121 [.ptr 1000000 0,iD e,iD f,iD g] (DX.h2 b) (DX.h2 ({b with CO:=r})) (.Em []):=by
 refine EC func121 Ahu ?_;unfold G3 at a;obtain ⟨i,a⟩:=gE a;refine G7 i ?_;exact zO a
def Kd(a:DX)(b:Int):Option (Aa×Ab×Ah×Ak):=
 (LQ (⟨a.CP,a.CQ⟩:KI) b).bind λ (x1,x2,x3)=>cond (x3=0) ((CU a.CN b).bind λ e=>(G3 {a with CP:=x1.CP,CQ:=x1.CQ,CN:=a.CN.set b.toNat {e with wait:=0}} 10 b x2).bind λ JJ=>some (x1.CP,x1.CQ,(a.CN.set b.toNat {e with wait:=0}),JJ)) (some (a.CP,a.CQ,a.CN,a.CO))
theorem Sq{b e r}(a:Kd b e=some r):
   Rq 140 [.ptr 1000000 0,iD e] (DX.h2 b) (DX.h2 ({b with CP:=r.1,CQ:=r.2.1,CN:=r.2.2.1,CO:=r.2.2.2})) (.Em []):=by
 refine EC func140 Aht ?_;unfold Kd at a;refine Eb a W2 ?_;rintro ⟨_,_,_⟩ a;refine cO a λ _ a=>?_;obtain ⟨_,a,_⟩:=jE Da a;refine Eb a Is λ _ a=>?_;exact zO a
def u4(b:DX):Ah×Ak×Aa×Ab×Int->Option ((Ah×Ak×Aa×Ab×Int)⊕((Ah×Ak×Aa×Ab×Int)))
 | (e,i,f,g,a)=>cond (a<(e.length:Int)) ((CU e a).bind λ HB=>(K6 (⟨f,g⟩:KI) a).bind λ I6=>cond (HB.state=1) (cond (I6<0) (some (.inl (e,i,f,g,(i64.wrap (a+1))))) (cond ((b.blocks.length:Int)<=I6) (some (.inl (e,i,f,g,(i64.wrap (a+1))))) (cond (HB.cell<0) (some (.inl (e,i,f,g,(i64.wrap (a+1))))) (cond ((b.blocks.length:Int)<=HB.cell) (some (.inl (e,i,f,g,(i64.wrap (a+1))))) (cond (HB.wait<b.cp) (some (.inl (e,i,f,g,(i64.wrap (a+1))))) (cond (b.cd<=HB.EH) (some (.inl (e,i,f,g,(i64.wrap (a+1))))) ((KS {b with CP:=f,CQ:=g,CN:=e,CO:=i} HB).bind λ O4=>cond (O4<0) (some (.inl (e,i,f,g,(i64.wrap (a+1))))) ((My (⟨b.blocks,b.next,b.CT,b.C7,b.cq,b.ca,b.cd,b.cp⟩:Nt) (⟨b.closed,b.Dm,b.CZ⟩:Mc) (⟨f,g⟩:KI) HB.cell I6 O4).bind λ (KP,O3)=>cond O3 ((Kd {b with CP:=f,CQ:=g,CN:=e,CO:=i} a).bind λ (R3,H4,Wz,Sl)=>(G3 {b with CP:=R3,CQ:=H4,CN:=Wz,CO:=Sl} 12 a 0).bind λ j=>cond (Wz.length=e.length) ((CU Wz a).bind λ Mr=>(CU (Wz.set a.toNat {Mr with Db:=KP}) a).bind λ TZ=>some (.inl (((Wz.set a.toNat {Mr with Db:=KP}).set a.toNat {TZ with EH:=(i64.wrap (TZ.EH+1))}),j,R3,H4,(i64.wrap (a+1))))) none) (some (.inl (e,i,f,g,(i64.wrap (a+1))))))))))))) (some (.inl (e,i,f,g,(i64.wrap (a+1)))))) (some (.inr (e,i,f,g,a)))
def OC(a:DX):Option (Aa×Ab×Ah×Ak):=
 (C9 (u4 a) (a.CN,a.CO,a.CP,a.CQ,0)).bind (λ (v54,v55,v56,v57,v58)=>some (v56,v57,v54,v55))
theorem Al9{a r}(b:OC a=some r):
   Rq 95 [.ptr 1000000 0] (DX.h2 a) (DX.h2 ({a with CP:=r.1,CQ:=r.2.1,CN:=r.2.2.1,CO:=r.2.2.2})) (.Em []):=by
 refine EC func95 Beq ?_;unfold OC at b;obtain ⟨j,g,b⟩:=bE b;refine HV g [0] [] (λ q=>[(2,iD q.2.2.2.2)]) (λ q=>DX.h2 ({a with CP:=q.2.2.1,CQ:=q.2.2.2.1,CN:=q.1,CO:=q.2.1})) ?_;rintro ⟨l,m,n,o,k⟩ _ Dp L1;rw[u4.eq_1] at Dp;obtain ⟨_,Dp⟩ | ⟨_,Dp⟩:=cK Dp
 . cases kR Dp;exact zO b
 obtain ⟨_,Dp,_⟩:=jK Da Dp;refine FI Dp LR λ _ Dp=>?_;refine Dd [0,0,0,0,0,0,0,0,0,0,0,0,0,0,0,0,0,0,0,0,0,0,0,0,0,0,0,0,0,0,0,0,0,0,0,0,0,0,0,0,0,0,0,0,0,0,0,0,0,0,0,0,0,0,0] ?_;obtain ⟨_,Dp⟩ | ⟨_,Dp⟩:=cK Dp
 . exact AL (L1 _ _ (kI Dp))
 obtain ⟨_,Dp⟩ | ⟨_,Dp⟩:=cK Dp
 . obtain ⟨_,Dp⟩ | ⟨_,Dp⟩:=cK Dp
   . obtain ⟨_,Dp⟩ | ⟨_,Dp⟩:=cK Dp
     . obtain ⟨_,Dp⟩ | ⟨_,Dp⟩:=cK Dp
       . obtain ⟨_,Dp⟩ | ⟨_,Dp⟩:=cK Dp
         . obtain ⟨_,Dp⟩ | ⟨_,Dp⟩:=cK Dp
           . refine FI Dp UC λ _ Dp=>?_;obtain ⟨_,Dp⟩ | ⟨_,Dp⟩:=cK Dp
             . refine Dd [0,0,0,0,0,0,0,0,0,0,0,0,0,0,0,0,0,0,0,0,2,0,0,0,0,0] ?_;refine Sh Dp Afc ?_;rintro ⟨_,_⟩ Dp;obtain ⟨_,Dp⟩ | ⟨_,Dp⟩:=cK Dp
               . exact AL (L1 _ _ (kI Dp))
               refine FI Dp Sq ?_;rintro ⟨_,_,Wz,_⟩ Dp;refine FI Dp Is λ _ Dp=>?_;obtain ⟨e,Dp⟩:=gK Dp;have i:(l.length=Wz.length)=True:=eq_true (Bg e).symm;obtain ⟨_,Dp,_⟩:=jK Da Dp;obtain ⟨_,Dp,_,f,_⟩:=jK Da Dp;have _:=sl f;exact AL (L1 _ _ (kI Dp))
             exact AL (L1 _ _ (kI Dp))
           exact AL (L1 _ _ (kI Dp))
         exact AL (L1 _ _ (kI Dp))
       exact AL (L1 _ _ (kI Dp))
     exact AL (L1 _ _ (kI Dp))
   exact AL (L1 _ _ (kI Dp))
 exact AL (L1 _ _ (kI Dp))
def SR(a:KI)(b:Int)(e:Int):Option (KI×Int):=
 (LO a b e).bind λ f=>cond (f=0) ((K6 a b).bind λ g=>cond (0<=g) (some ((⟨[],[]⟩:KI),24)) ((CU a.CP e).bind λ i=>cond (i=b) (some ((⟨[],[]⟩:KI),24)) ((H5 a).bind λ Jr=>(CU Jr.CQ e).bind λ Jp=>cond (Jp.length+1<10000000) (some ((⟨Jr.CP,(Jr.CQ.set e.toNat (Jp++[b]))⟩:KI),0)) none))) (some ((⟨[],[]⟩:KI),f))
theorem Ard{i j e r}(a:SR i j e=some r):
   Rq 151 [.agg i.c,iD j,iD e] [] [] (.Em [.agg r.1.c,iD r.2]):=by
 refine EC func151 Az0 ?_;unfold SR at a;refine Eb a WX λ _ a=>?_;refine cP a λ _ a=>?_;refine Eb a LR λ _ a=>?_;obtain ⟨_,a⟩ | ⟨_,a⟩:=cE a
 . obtain ⟨_,a,_⟩:=jE Dk a;obtain ⟨_,a⟩ | ⟨_,a⟩:=cE a
   . obtain ⟨Jr,g,a⟩:=bE a;refine A ?_;refine Gn (W3 g) ?_;rintro l r ⟨k,rfl,rfl⟩;refine Ex [3] [0,10,20,30,40,50,80,91,62,72,102,112,123] ?_;obtain ⟨Jp,a,b,_⟩:=iE a;have _:(Ok Jr.CQ).getD (Int.toNat e) []=CS Jp:=Bdg b;have _:(Ok Jr.CQ)[(Int.toNat e)]?.getD []=CS Jp:=Ax1 b;have _:(Int.toNat e)<Jr.CQ.length:=Bjh b;have _:∀hx,(Ok Jr.CQ)[(Int.toNat e)]'hx=CS Jp:=Ax0 b;obtain ⟨f,a⟩:=gE a;refine G7 f ?_;exact zP a
   exact zP a
 exact zP a
def s8(i:DX):Ah×Ak×Aa×Ab×Int->Option ((Ah×Ak×Aa×Ab×Int)⊕((Ah×Ak×Aa×Ab×Int)))
 | (b,g,e,f,a)=>cond (a<(b.length:Int)) ((CU b a).bind λ HB=>(E5 HB).bind λ I6=>cond I6 (cond (HB.E9=(-1)) (cond HB.DG (some (.inl (b,g,e,f,(i64.wrap (a+1))))) (cond ((HB.Db.length:Int)=0) (some (.inl (b,g,e,f,(i64.wrap (a+1))))) ((K6 (⟨e,f⟩:KI) a).bind λ Nn=>cond (0<=Nn) (some (.inl (b,g,e,f,(i64.wrap (a+1))))) ((CU HB.Db 0).bind λ O4=>(SR (⟨e,f⟩:KI) a O4).bind λ (O3,NC)=>cond (NC=0) ((G3 {i with CP:=O3.CP,CQ:=O3.CQ,CN:=b,CO:=g} 9 a O4).bind λ H4=>some (.inl ((b.set a.toNat {HB with DG:=false,wait:=0}),H4,O3.CP,O3.CQ,(i64.wrap (a+1))))) (some (.inl (b,g,e,f,(i64.wrap (a+1))))))))) (some (.inl (b,g,e,f,(i64.wrap (a+1)))))) (some (.inl (b,g,e,f,(i64.wrap (a+1)))))) (some (.inr (b,g,e,f,a)))
def OA(a:DX):Option (Aa×Ab×Ah×Ak):=
 (C9 (s8 a) (a.CN,a.CO,a.CP,a.CQ,0)).bind (λ (v40,v41,v42,v43,v44)=>some (v42,v43,v40,v41))
theorem Al2{a r}(b:OA a=some r):
   Rq 96 [.ptr 1000000 0] (DX.h2 a) (DX.h2 ({a with CP:=r.1,CQ:=r.2.1,CN:=r.2.2.1,CO:=r.2.2.2})) (.Em []):=by
 refine EC func96 Bep ?_;unfold OA at b;obtain ⟨g,e,b⟩:=bE b;refine A ?_;refine E0 e (λ q=>⟨[(0,.ptr 1000000 0),(2,iD q.2.2.2.2)],(DX.h2 ({a with CP:=q.2.2.1,CQ:=q.2.2.2.1,CN:=q.1,CO:=q.2.1})),94⟩) ((Wk.forget AZ)) ?_;rintro ⟨j,k,l,m,i⟩ _ Dp L1;rw[s8.eq_1] at Dp;obtain ⟨_,Dp⟩ | ⟨_,Dp⟩:=cK Dp
 . cases kR Dp;exact zO b
 obtain ⟨HB,Dp,_⟩:=jK Da Dp;refine FI Dp GG λ _ Dp=>?_;obtain ⟨_,Dp⟩ | ⟨_,Dp⟩:=cK Dp
 . refine A ?_;exact L1 _ _ (kI Dp) ((Wk.forget AZ))
 obtain ⟨_,Dp⟩ | ⟨_,Dp⟩:=cK Dp
 . refine A ?_;exact L1 _ _ (kI Dp) ((Wk.forget AZ))
 obtain ⟨_,Dp⟩ | ⟨_,Dp⟩:=cK Dp
 . obtain ⟨_,Dp⟩ | ⟨_,Dp⟩:=cK Dp
   . refine FI Dp LR λ _ Dp=>?_;obtain ⟨_,Dp⟩ | ⟨_,Dp⟩:=cK Dp
     . refine Ex [1000000,1000001] [0,10,20,30,40,50,60,70,80,90,100,110,161,122,130,140,150,172,180] ?_;obtain ⟨_,Dp,f,_⟩:=iK Dp;have _:(CS HB.Db).getD 0 []=_:=Dk f;refine Sh Dp Ard ?_;rintro ⟨_,_⟩ Dp;obtain ⟨_,Dp⟩ | ⟨_,Dp⟩:=cK Dp
       . refine A ?_;exact L1 _ _ (kI Dp) ((Wk.forget AZ))
       refine FI Dp Is λ _ Dp=>?_;refine A ?_;exact L1 _ _ (kI Dp) ((Wk.forget AZ))
     refine A ?_;exact L1 _ _ (kI Dp) ((Wk.forget AZ))
   refine A ?_;exact L1 _ _ (kI Dp) ((Wk.forget AZ))
 refine A ?_;exact L1 _ _ (kI Dp) ((Wk.forget AZ))
def Aei(e:DX)(n:KI)(o:AB):Ah×Au×Ak×AB×Int->Option ((Ah×Au×Ak×AB×Int)⊕((Ah×Au×Ak×AB×Int)))
 | (a,b,JR,FP,Ho)=>cond (Ho<(o.length:Int)) ((CU o Ho).bind λ Fo=>(CU a Fo.CY).bind λ OP=>(G3 {e with CP:=n.CP,CQ:=n.CQ,CN:=a,DV:=b,CO:=JR,Fy:=FP} 11 Fo.CY Fo.cell).bind λ O4=>(CU (a.set Fo.CY.toNat {OP with wait:=0}) Fo.CY).bind λ LG=>cond (LG.state=0) ((CU ((a.set Fo.CY.toNat {OP with wait:=0}).set Fo.CY.toNat {LG with state:=1}) Fo.CY).bind λ f=>(CU (((a.set Fo.CY.toNat {OP with wait:=0}).set Fo.CY.toNat {LG with state:=1}).set Fo.CY.toNat {f with cell:=Fo.cell}) Fo.CY).bind λ g=>(CU ((((a.set Fo.CY.toNat {OP with wait:=0}).set Fo.CY.toNat {LG with state:=1}).set Fo.CY.toNat {f with cell:=Fo.cell}).set Fo.CY.toNat {g with Du:=0}) Fo.CY).bind λ Si=>(K0 (⟨e.blocks,e.next,e.CT,e.C7,e.cq,e.ca,e.cd,e.cp⟩:Nt) Si.cell).bind λ Ar3=>cond (FP.length+1<10000000) (some (.inl ((((((a.set Fo.CY.toNat {OP with wait:=0}).set Fo.CY.toNat {LG with state:=1}).set Fo.CY.toNat {f with cell:=Fo.cell}).set Fo.CY.toNat {g with Du:=0}).set Fo.CY.toNat {Si with Db:=Ar3}),b,O4,(FP++[Fo]),(i64.wrap (Ho+1))))) none) ((CU ((a.set Fo.CY.toNat {OP with wait:=0}).set Fo.CY.toNat {LG with E9:=Fo.cell}) Fo.CY).bind λ H4=>cond (0<=(if (H4.Db.length:Int)<1 then (H4.Db.length:Int) else 1)/\(if (H4.Db.length:Int)<1 then (H4.Db.length:Int) else 1)<=(H4.Db.length:Int)/\(H4.Db.length:Int)<=(H4.Db.length:Int)) (cond (((H4.Db.take H4.Db.length).drop (Int.toNat (if (H4.Db.length:Int)<1 then (H4.Db.length:Int) else 1))).length<10000000) ((CU (((a.set Fo.CY.toNat {OP with wait:=0}).set Fo.CY.toNat {LG with E9:=Fo.cell}).set Fo.CY.toNat {H4 with Db:=((H4.Db.take H4.Db.length).drop (Int.toNat (if (H4.Db.length:Int)<1 then (H4.Db.length:Int) else 1)))}) Fo.CY).bind λ Pw=>(CU ((((a.set Fo.CY.toNat {OP with wait:=0}).set Fo.CY.toNat {LG with E9:=Fo.cell}).set Fo.CY.toNat {H4 with Db:=((H4.Db.take H4.Db.length).drop (Int.toNat (if (H4.Db.length:Int)<1 then (H4.Db.length:Int) else 1)))}).set Fo.CY.toNat {Pw with seq:=(IntKind.u64.wrap (Pw.seq+1))}) Fo.CY).bind λ Uz=>(CU (((((a.set Fo.CY.toNat {OP with wait:=0}).set Fo.CY.toNat {LG with E9:=Fo.cell}).set Fo.CY.toNat {H4 with Db:=((H4.Db.take H4.Db.length).drop (Int.toNat (if (H4.Db.length:Int)<1 then (H4.Db.length:Int) else 1)))}).set Fo.CY.toNat {Pw with seq:=(IntKind.u64.wrap (Pw.seq+1))}).set Fo.CY.toNat {Uz with LF:=false}) Fo.CY).bind λ Vv=>cond ((Vv.Db.length:Int)=0) (cond (Vv.Du=1) ((CU ((((((a.set Fo.CY.toNat {OP with wait:=0}).set Fo.CY.toNat {LG with E9:=Fo.cell}).set Fo.CY.toNat {H4 with Db:=((H4.Db.take H4.Db.length).drop (Int.toNat (if (H4.Db.length:Int)<1 then (H4.Db.length:Int) else 1)))}).set Fo.CY.toNat {Pw with seq:=(IntKind.u64.wrap (Pw.seq+1))}).set Fo.CY.toNat {Uz with LF:=false}).set Fo.CY.toNat {Vv with DG:=true}) Fo.CY).bind λ l=>(Ks l Fo.CY).bind λ m=>cond (b.length+1<10000000) (some (.inl (((((((a.set Fo.CY.toNat {OP with wait:=0}).set Fo.CY.toNat {LG with E9:=Fo.cell}).set Fo.CY.toNat {H4 with Db:=((H4.Db.take H4.Db.length).drop (Int.toNat (if (H4.Db.length:Int)<1 then (H4.Db.length:Int) else 1)))}).set Fo.CY.toNat {Pw with seq:=(IntKind.u64.wrap (Pw.seq+1))}).set Fo.CY.toNat {Uz with LF:=false}).set Fo.CY.toNat {Vv with DG:=true}),(b++[m]),O4,FP,(i64.wrap (Ho+1))))) none) ((CU ((((((a.set Fo.CY.toNat {OP with wait:=0}).set Fo.CY.toNat {LG with E9:=Fo.cell}).set Fo.CY.toNat {H4 with Db:=((H4.Db.take H4.Db.length).drop (Int.toNat (if (H4.Db.length:Int)<1 then (H4.Db.length:Int) else 1)))}).set Fo.CY.toNat {Pw with seq:=(IntKind.u64.wrap (Pw.seq+1))}).set Fo.CY.toNat {Uz with LF:=false}).set Fo.CY.toNat {Vv with DG:=decide (Vv.Du=2)}) Fo.CY).bind λ j=>(Ks j Fo.CY).bind λ k=>cond (b.length+1<10000000) (some (.inl (((((((a.set Fo.CY.toNat {OP with wait:=0}).set Fo.CY.toNat {LG with E9:=Fo.cell}).set Fo.CY.toNat {H4 with Db:=((H4.Db.take H4.Db.length).drop (Int.toNat (if (H4.Db.length:Int)<1 then (H4.Db.length:Int) else 1)))}).set Fo.CY.toNat {Pw with seq:=(IntKind.u64.wrap (Pw.seq+1))}).set Fo.CY.toNat {Uz with LF:=false}).set Fo.CY.toNat {Vv with DG:=decide (Vv.Du=2)}),(b++[k]),O4,FP,(i64.wrap (Ho+1))))) none)) ((CU ((((((a.set Fo.CY.toNat {OP with wait:=0}).set Fo.CY.toNat {LG with E9:=Fo.cell}).set Fo.CY.toNat {H4 with Db:=((H4.Db.take H4.Db.length).drop (Int.toNat (if (H4.Db.length:Int)<1 then (H4.Db.length:Int) else 1)))}).set Fo.CY.toNat {Pw with seq:=(IntKind.u64.wrap (Pw.seq+1))}).set Fo.CY.toNat {Uz with LF:=false}).set Fo.CY.toNat {Vv with DG:=false}) Fo.CY).bind λ i=>(Ks i Fo.CY).bind λ RN=>cond (b.length+1<10000000) (some (.inl (((((((a.set Fo.CY.toNat {OP with wait:=0}).set Fo.CY.toNat {LG with E9:=Fo.cell}).set Fo.CY.toNat {H4 with Db:=((H4.Db.take H4.Db.length).drop (Int.toNat (if (H4.Db.length:Int)<1 then (H4.Db.length:Int) else 1)))}).set Fo.CY.toNat {Pw with seq:=(IntKind.u64.wrap (Pw.seq+1))}).set Fo.CY.toNat {Uz with LF:=false}).set Fo.CY.toNat {Vv with DG:=false}),(b++[RN]),O4,FP,(i64.wrap (Ho+1))))) none)) none) none)) (some (.inr (a,b,JR,FP,Ho)))
def QM(a:DX):Option (Aa×Ab×Ah×Au×Ak×AB):=
 (N0 (⟨a.CP,a.CQ⟩:KI) a.closed).bind λ (x1,x2,x3)=>cond (x3=0) ((C9 (Aei a x1 x2) (a.CN,a.DV,a.CO,a.Fy,0)).bind (λ (v105,Bx3,v107,Bx2,v109)=>some (x1.CP,x1.CQ,v105,Bx3,v107,Bx2))) (some (a.CP,a.CQ,a.CN,a.DV,a.CO,a.Fy))
theorem Apr{b r}(a:QM b=some r):
   Rq 97 [.ptr 1000000 0] (DX.h2 b) (DX.h2 ({b with CP:=r.1,CQ:=r.2.1,CN:=r.2.2.1,DV:=r.2.2.2.1,CO:=r.2.2.2.2.1,Fy:=r.2.2.2.2.2})) (.Em []):=by
 refine EC func97 Beo ?_;unfold QM at a;refine Ex [1000000] [0,10,20,30,40,50,60,70,80,90,100,161,112,120,130,140,150,172,180,190] ?_;refine FH a Ajl ?_;rintro ⟨y,_,_⟩ a;refine cO a λ _ a=>?_;obtain ⟨z,x,a⟩:=bE a;refine HV x [0,3] [] (λ q=>[(5,iD q.2.2.2.2)]) (λ q=>DX.h2 ({b with CP:=y.CP,CQ:=y.CQ,CN:=q.1,DV:=q.2.1,CO:=q.2.2.1,Fy:=q.2.2.2.1})) ?_;rintro ⟨B,E,JR,FP,Ho⟩ _ DO Xk;rw[Aei.eq_1] at DO;obtain ⟨_,DO⟩ | ⟨_,DO⟩:=cK DO
 . cases kR DO;exact zO a
 obtain ⟨_,DO,_⟩:=jK Ap4 DO;obtain ⟨_,DO,_⟩:=jK Da DO;refine FI DO Is λ _ DO=>?_;obtain ⟨_,DO,_,k,_⟩:=jK Da DO;have _:=sl k;obtain ⟨_,DO⟩ | ⟨_,DO⟩:=cK DO
 . refine C4 [1000001] [0,0,0,0,0,0,0,0,0,0,0,0,2,0,0,3] ?_;obtain ⟨H4,DO,_,l,_⟩:=jK Da DO;have _:=sl l;obtain ⟨e,DO⟩:=gK DO;have _:=Bg e;obtain ⟨f,DO⟩:=gK DO;(try simp only[go_sem, *,J4 H4.Db]);refine An f ?_;obtain ⟨_,DO,_,m,_⟩:=jK Da DO;have _:=sl m;obtain ⟨_,DO,_,n,_⟩:=jK Da DO;have _:=sl n;obtain ⟨_,DO,_,o,_⟩:=jK Da DO;have _:=sl o;obtain ⟨_,DO⟩ | ⟨_,DO⟩:=cK DO
   . (try simp only[go_sem, *,J4 H4.Db]);refine Alk [1000000,1000001] [0,0,0,0,0,0,0,0,0,0,2,1,2,0,0,0,3] ?_;obtain ⟨_,DO,_,p,_⟩:=jK Da DO;have _:=sl p;refine Sh DO O9 λ _ DO=>?_;obtain ⟨g,DO⟩:=gK DO;refine G7 g ?_;exact AL (Xk _ _ (kI DO))
   obtain ⟨_,DO⟩ | ⟨_,DO⟩:=cK DO
   . (try simp only[go_sem, *,J4 H4.Db]);refine Alk [1000000,1000001] [0,0,0,0,0,0,0,0,0,0,2,1,2,0,0,0,3] ?_;obtain ⟨_,DO,_,s,_⟩:=jK Da DO;have _:=sl s;refine Sh DO O9 λ _ DO=>?_;obtain ⟨i,DO⟩:=gK DO;refine G7 i ?_;exact AL (Xk _ _ (kI DO))
   (try simp only[go_sem, *,J4 H4.Db]);refine Alk [1000000,1000001] [0,0,0,0,0,0,0,0,0,0,2,1,2,0,0,0,3] ?_;obtain ⟨_,DO,_,t,_⟩:=jK Da DO;have _:=sl t;refine Sh DO O9 λ _ DO=>?_;obtain ⟨j,DO⟩:=gK DO;refine G7 j ?_;exact AL (Xk _ _ (kI DO))
 obtain ⟨_,DO,_,u,_⟩:=jK Da DO;have _:=sl u;obtain ⟨_,DO,_,v,_⟩:=jK Da DO;have _:=sl v;refine C4 [1000000,1000001] [0,0,0,0,0,0,0,0,0,2,0,0,3] ?_;obtain ⟨_,DO,_,w,_⟩:=jK Da DO;have _:=sl w;refine Sh DO NP λ _ DO=>?_;refine C4 [1000000] [0,0,0,0,0,0,0,0,0,0,1,2,0,0,0,3] ?_;obtain ⟨Cb5,DO⟩:=gK DO;refine G7 Cb5 ?_;exact AL (Xk _ _ (kI DO))
def Aiq(g:DX)(Jp:Aa):Ah×Ak×Ac×Aa×Ab×Int->Option ((Ah×Ak×Ac×Aa×Ab×Int)⊕((Ah×Ak×Ac×Aa×Ab×Int)))
 | (a,Ls,So,Zm,e,J7)=>cond (J7<(Jp.length:Int)) ((CU a J7).bind λ Yi=>(E5 Yi).bind λ Sl=>cond Sl ((CU Jp J7).bind λ b=>cond (Yi.Eu=b) (some (.inl (a,Ls,So,Zm,e,(i64.wrap (J7+1))))) ((CU So J7).bind λ l=>(Hz {g with CP:=Zm,CQ:=e,CN:=a.set J7.toNat {Yi with Eu:=b},CO:=Ls} 19 J7 b).bind λ UR=>(CU (a.set J7.toNat {Yi with Eu:=b}) J7).bind λ i=>cond (i.state=0) ((GR {g with CP:=Zm,CQ:=e,CN:=a.set J7.toNat {Yi with Eu:=b},CO:=UR} J7).bind λ (x60,x61,x62,x63)=>cond (x62.length=a.length) ((CU x62 J7).bind λ f=>cond (0<=b) ((CU g.CT b).bind λ j=>(CU (x62.set J7.toNat {f with Db:=[]}) J7).bind λ k=>some (.inl (((x62.set J7.toNat {f with Db:=[]}).set J7.toNat {k with Db:=[j.base]}),x63,(So.set J7.toNat true),x60,x61,(i64.wrap (J7+1))))) (some (.inl ((x62.set J7.toNat {f with Db:=[]}),x63,(So.set J7.toNat true),x60,x61,(i64.wrap (J7+1)))))) none) (some (.inl ((a.set J7.toNat {Yi with Eu:=b}),UR,(So.set J7.toNat true),Zm,e,(i64.wrap (J7+1))))))) (some (.inl (a,Ls,So,Zm,e,(i64.wrap (J7+1)))))) (some (.inr (a,Ls,So,Zm,e,J7)))
def Aip(a:DX):Aa×Int->Option ((Aa×Int)⊕((Aa×Int)))
 | (b,e)=>cond (e<(a.CN.length:Int)) ((CU a.CN e).bind λ f=>cond (f.state=1) ((IK f).bind λ g=>(K1 (⟨a.blocks,a.next,a.CT,a.C7,a.cq,a.ca,a.cd,a.cp⟩:Nt) g).bind λ i=>cond (b.length+1<10000000) (some (.inl ((b++[i]),(i64.wrap (e+1))))) none) (cond (b.length+1<10000000) (some (.inl ((b++[(-1)]),(i64.wrap (e+1))))) none)) (some (.inr (b,e)))
def OB(a:DX):Option (Ac×Aa×Ab×Ah×Ak):=
 (C9 (Aip a) ([],0)).bind (λ (v99,v100)=>(Ut a).bind λ R4=>(Kf a.CN).bind λ Bmk=>(K4 (⟨a.blocks,a.next,a.CT,a.C7,a.cq,a.ca,a.cd,a.cp⟩:Nt) R4 Bmk v99).bind λ Af5=>cond (Af5.length<10000000) ((C9 (Aiq a Af5) (a.CN,a.CO,(List.replicate Af5.length false),a.CP,a.CQ,0)).bind (λ (Bmy,v173,Bwy,v175,Bwx,v177)=>some (Bwy,v175,Bwx,Bmy,v173))) none)
theorem A3{p:Prop}(h:p:=by simp[OI,Bor,ev,get,BA,ZB,ZBu,DX.h,GF.h,DX.h2,GF.h2]<;>rfl):p:=h
theorem Aeh{b r}(a:OB b=some r):
   Rq 182 [.ptr 1000000 0] (DX.h b) (DX.h ({b with CP:=r.2.1,CQ:=r.2.2.1,CN:=r.2.2.2.1,CO:=r.2.2.2.2})) (sD (Dl r.1)):=by
 refine EC func182 Ay9 ?_;unfold OB at a;obtain ⟨w,u,a⟩:=bE a;refine A ?_;refine E0 u (λ q=>⟨[(0,.ptr 1000000 0),(3,rD 42 q.1),(4,iD q.2)],(DX.h b++[(42,.arr 3 1 (CS q.1))]),139⟩) ((Wk.nil (t:=3) (q:=42) (sz:=1) 3 rfl rfl AV).trans Wr) ?_;rintro ⟨y,z⟩ _ EO YN;rw[Aip.eq_1] at EO;obtain ⟨_,EO⟩ | ⟨_,EO⟩:=cK EO
 . cases kR EO;(try dsimp only at a);refine Ex [1000000] [0,10,20,30,40,60,70,80,90,100,120,52,112,132,140] ?_;refine FH a Aik λ _ a=>?_;obtain ⟨_,l,a⟩:=bE a;refine A ?_;refine Alp rfl rfl (U4 l) A3 ?_;rintro x r ⟨rfl,rfl⟩;refine ⟨_,_,_,rfl,Ai6 _,rfl,?_⟩;refine FH a Abh λ _ a=>?_;obtain ⟨e,a⟩:=gE a;refine G7 e ?_;obtain ⟨s,m,a⟩:=bE a;refine HV m [0,7] [] (λ q=>[(8,rD 59 q.2.2.1),(9,iD q.2.2.2.2.2)]) (λ q=>DX.h ({b with CP:=q.2.2.2.1,CQ:=q.2.2.2.2.1,CN:=q.1,CO:=q.2.1})++[(59,.arr 4 1 (Dl q.2.2.1))]) ?_;rintro ⟨n,Ls,So,Zm,v,J7⟩ _ HG Bdd;rw[Aiq.eq_1] at HG;obtain ⟨_,HG⟩ | ⟨_,HG⟩:=cK HG
   . cases kR HG;exact zP a
   obtain ⟨_,HG,_⟩:=jK Da HG;refine Dd [0,0,0,2,0,0,0,0,0,0,0,0,0,0,0,0] ?_;refine Sh HG GG λ _ HG=>?_;obtain ⟨_,HG⟩ | ⟨_,HG⟩:=cK HG
   . exact AL (Bdd _ _ (kI HG))
   obtain ⟨_,HG,_⟩:=jK Dk HG;obtain ⟨_,HG⟩ | ⟨_,HG⟩:=cK HG
   . obtain ⟨_,HG,_⟩:=jK DZ HG;refine FI HG F6 λ _ HG=>?_;obtain ⟨_,HG,_,j,_⟩:=jK Da HG;have _:=sl j;obtain ⟨_,HG⟩ | ⟨_,HG⟩:=cK HG
     . exact AL (Bdd _ _ (kI HG))
     refine FI HG HU ?_;rintro ⟨_,_,o,_⟩ HG;obtain ⟨f,HG⟩:=gK HG;have p:(n.length=o.length)=True:=eq_true (Bg f).symm;obtain ⟨_,HG,_⟩:=jK Da HG;obtain ⟨_,HG⟩ | ⟨_,HG⟩:=cK HG
     . exact AL (Bdd _ _ (kI HG))
     refine Dd [0,0,0,0,0,0,0,0,0,0,0,0,0,1,0,0,3] ?_;obtain ⟨_,HG,_⟩:=jK Ew HG;obtain ⟨_,HG,_,k,_⟩:=jK Da HG;have _:=sl k;exact AL (Bdd _ _ (kI HG))
   exact AL (Bdd _ _ (kI HG))
 obtain ⟨_,EO,_⟩:=jK Da EO;obtain ⟨_,EO⟩ | ⟨_,EO⟩:=cK EO
 . obtain ⟨g,EO⟩:=gK EO;refine G7 g ?_;exact AL (YN _ _ (kI EO))
 refine Dd [0,0,0,0,0,2,2,0] ?_;refine Sh EO Kr λ _ EO=>?_;refine Sh EO NQ λ _ EO=>?_;obtain ⟨i,EO⟩:=gK EO;refine G7 i ?_;exact AL (YN _ _ (kI EO))
def L8(g:DX)(FP:Aa)(Ho:Ac)(Ii:Aa)(Jq:Aa)(KP:Ac)(e:Ao):Ah×Ak×Aa×Ab×Int->Option ((Ah×Ak×Aa×Ab×Int)⊕((Ah×Ak×Aa×Ab×Int)))
 | (WD,Yv,a,Zl,b)=>cond (b<(WD.length:Int)) ((CU WD b).bind λ f=>cond (f.state=1) (cond (f.Du=3) ((CU KP b).bind λ Bc0=>cond Bc0 ((FZ {g with CP:=a,CQ:=Zl,closed:=Ho,Dm:=Ii,CZ:=Jq,CN:=WD,CR:=e,C6:=false,CO:=Yv,DC:=FP} b).bind λ (Alv,Bbu,Aqz,Bmc)=>some (.inl (Aqz,Bmc,Alv,Bbu,(i64.wrap (b+1))))) ((JC {g with CP:=a,CQ:=Zl,closed:=Ho,Dm:=Ii,CZ:=Jq,CN:=WD,CR:=e,C6:=false,CO:=Yv,DC:=FP} f).bind λ Bw4=>cond Bw4 ((FZ {g with CP:=a,CQ:=Zl,closed:=Ho,Dm:=Ii,CZ:=Jq,CN:=WD,CR:=e,C6:=false,CO:=Yv,DC:=FP} b).bind λ (Avp,Ar0,Bmd,Bbv)=>some (.inl (Bmd,Bbv,Avp,Ar0,(i64.wrap (b+1))))) (cond (f.Du=1) ((JC {g with CP:=a,CQ:=Zl,closed:=Ho,Dm:=Ii,CZ:=Jq,CN:=WD,CR:=e,C6:=false,CO:=Yv,DC:=FP} f).bind λ Alw=>cond Alw ((Mp {g with CP:=a,CQ:=Zl,closed:=Ho,Dm:=Ii,CZ:=Jq,CN:=WD,CR:=e,C6:=false,CO:=Yv,DC:=FP} f).bind λ Bbx=>(GJ {g with CP:=a,CQ:=Zl,closed:=Ho,Dm:=Ii,CZ:=Jq,CN:=WD,CR:=e,C6:=false,CO:=Yv,DC:=FP} b Bbx).bind λ (PZ,Bbw,Vw,Aj4)=>some (.inl (Vw,Aj4,PZ,Bbw,(i64.wrap (b+1))))) (some (.inl (WD,Yv,a,Zl,(i64.wrap (b+1)))))) (cond (f.Du=2) ((JC {g with CP:=a,CQ:=Zl,closed:=Ho,Dm:=Ii,CZ:=Jq,CN:=WD,CR:=e,C6:=false,CO:=Yv,DC:=FP} f).bind λ Bmi=>cond Bmi ((Mp {g with CP:=a,CQ:=Zl,closed:=Ho,Dm:=Ii,CZ:=Jq,CN:=WD,CR:=e,C6:=false,CO:=Yv,DC:=FP} f).bind λ Aa3=>(GJ {g with CP:=a,CQ:=Zl,closed:=Ho,Dm:=Ii,CZ:=Jq,CN:=WD,CR:=e,C6:=false,CO:=Yv,DC:=FP} b Aa3).bind λ (Ar1,Bmg,Bby,Bmf)=>some (.inl (Bby,Bmf,Ar1,Bmg,(i64.wrap (b+1))))) (some (.inl (WD,Yv,a,Zl,(i64.wrap (b+1)))))) (some (.inl (WD,Yv,a,Zl,(i64.wrap (b+1))))))))) (cond (f.Du=1) ((JC {g with CP:=a,CQ:=Zl,closed:=Ho,Dm:=Ii,CZ:=Jq,CN:=WD,CR:=e,C6:=false,CO:=Yv,DC:=FP} f).bind λ Bmj=>cond Bmj ((Mp {g with CP:=a,CQ:=Zl,closed:=Ho,Dm:=Ii,CZ:=Jq,CN:=WD,CR:=e,C6:=false,CO:=Yv,DC:=FP} f).bind λ Ar2=>(GJ {g with CP:=a,CQ:=Zl,closed:=Ho,Dm:=Ii,CZ:=Jq,CN:=WD,CR:=e,C6:=false,CO:=Yv,DC:=FP} b Ar2).bind λ (Am0,Sn,Bc1,Alz)=>some (.inl (Bc1,Alz,Am0,Sn,(i64.wrap (b+1))))) (some (.inl (WD,Yv,a,Zl,(i64.wrap (b+1)))))) (cond (f.Du=2) ((JC {g with CP:=a,CQ:=Zl,closed:=Ho,Dm:=Ii,CZ:=Jq,CN:=WD,CR:=e,C6:=false,CO:=Yv,DC:=FP} f).bind λ i=>cond i ((Mp {g with CP:=a,CQ:=Zl,closed:=Ho,Dm:=Ii,CZ:=Jq,CN:=WD,CR:=e,C6:=false,CO:=Yv,DC:=FP} f).bind λ Si=>(GJ {g with CP:=a,CQ:=Zl,closed:=Ho,Dm:=Ii,CZ:=Jq,CN:=WD,CR:=e,C6:=false,CO:=Yv,DC:=FP} b Si).bind λ (x99,Bc2,R4,Ar3)=>some (.inl (R4,Ar3,x99,Bc2,(i64.wrap (b+1))))) (some (.inl (WD,Yv,a,Zl,(i64.wrap (b+1)))))) (some (.inl (WD,Yv,a,Zl,(i64.wrap (b+1)))))))) (some (.inl (WD,Yv,a,Zl,(i64.wrap (b+1)))))) (some (.inr (WD,Yv,a,Zl,b)))
def L7(j:DX)(FP:Aa)(Ho:Ac)(Ii:Aa)(Jq:Aa):Ah×Ao×Ak×Aa×Ab×Int->Option ((Ah×Ao×Ak×Aa×Ab×Int)⊕((Ah×Ao×Ak×Aa×Ab×Int)))
 | (e,b,f,g,i,a)=>cond (a<(b.length:Int)) ((QK {j with CP:=g,CQ:=i,closed:=Ho,Dm:=Ii,CZ:=Jq,CN:=e,CR:=b,C6:=false,CO:=f,DC:=FP} a).bind λ Bm8=>cond Bm8 ((Za {j with CP:=g,CQ:=i,closed:=Ho,Dm:=Ii,CZ:=Jq,CN:=e,CR:=b,C6:=false,CO:=f,DC:=FP} a 5 5).bind λ (Bm7,Bvo,Bm6,Bm5,Bm4)=>some (.inl (Bm6,Bm5,Bm4,Bm7,Bvo,(i64.wrap (a+1))))) (some (.inl (e,b,f,g,i,(i64.wrap (a+1)))))) (some (.inr (e,b,f,g,i,a)))
def Aee(f:DX):Ah×Ao×Ak×Aa×Ac×Aa×Aa×Bool×Aa×Ab->Option ((Ah×Ao×Ak×Aa×Ac×Aa×Aa×Bool×Aa×Ab)⊕((Aa×Ab×Ac×Aa×Aa×Ah×Ao×Bool×Ak×Aa)))
 | (b,a,JR,FP,Ho,Ii,Jq,OR,MZ,e)=>(TM {f with CP:=MZ,CQ:=e,closed:=Ho,Dm:=Ii,CZ:=Jq,CN:=b,CR:=a,C6:=OR,CO:=JR,DC:=FP}).bind λ OP=>cond OP (cond OR ((Hz {f with CP:=MZ,CQ:=e,closed:=Ho,Dm:=Ii,CZ:=Jq,CN:=b,CR:=a,C6:=false,CO:=JR,DC:=FP} 13 0 0).bind λ Bub=>(OB {f with CP:=MZ,CQ:=e,closed:=Ho,Dm:=Ii,CZ:=Jq,CN:=b,CR:=a,C6:=false,CO:=Bub,DC:=FP}).bind λ (Bua,Bu9,Bu8,Bu7,Bu6)=>(C9 (L7 f FP Ho Ii Jq) (Bu7,a,Bu6,Bu9,Bu8,0)).bind (λ (Bwg,Big,Bwf,Bwe,Bwd,v457)=>(C9 (L8 f FP Ho Ii Jq Bua Big) (Bwg,Bwf,Bwe,Bwd,0)).bind (λ (Bms,Bmr,Bmq,Bmp,v559)=>(Iq {f with CP:=Bmq,CQ:=Bmp,closed:=Ho,Dm:=Ii,CZ:=Jq,CN:=Bms,CR:=Big,C6:=false,CO:=Bmr,DC:=FP}).bind λ Bi9=>cond ((Bi9.length:Int)=0) (some (.inr ((Bmq,Bmp,Ho,Ii,Jq,Bms,Big,false,Bmr,FP):Aa×Ab×Ac×Aa×Aa×Ah×Ao×Bool×Ak×Aa))) ((Pq {f with CP:=Bmq,CQ:=Bmp,closed:=Ho,Dm:=Ii,CZ:=Jq,CN:=Bms,CR:=Big,C6:=false,CO:=Bmr,DC:=FP} Bi9).bind λ (Bu5,Bu4,Bu3,Bu2,Bu1,Bu0,Btz,Bty)=>cond (FP.length+Bi9.length<10000000) (some (.inl (Bu0,Btz,Bty,(FP++Bi9),Bu3,Bu2,Bu1,false,Bu5,Bu4))) none)))) ((OB {f with CP:=MZ,CQ:=e,closed:=Ho,Dm:=Ii,CZ:=Jq,CN:=b,CR:=a,C6:=false,CO:=JR,DC:=FP}).bind λ (KP,O3,NC,Yi,R3)=>(C9 (L7 f FP Ho Ii Jq) (Yi,a,R3,O3,NC,0)).bind (λ (Bww,v182,v183,Bwv,Bmx,Bwu)=>(C9 (L8 f FP Ho Ii Jq KP v182) (Bww,v183,Bwv,Bmx,0)).bind (λ (Bmw,Bmv,Bmu,Bmt,v288)=>(Iq {f with CP:=Bmu,CQ:=Bmt,closed:=Ho,Dm:=Ii,CZ:=Jq,CN:=Bmw,CR:=v182,C6:=false,CO:=Bmv,DC:=FP}).bind λ Avk=>cond ((Avk.length:Int)=0) (some (.inr ((Bmu,Bmt,Ho,Ii,Jq,Bmw,v182,false,Bmv,FP):Aa×Ab×Ac×Aa×Aa×Ah×Ao×Bool×Ak×Aa))) ((Pq {f with CP:=Bmu,CQ:=Bmt,closed:=Ho,Dm:=Ii,CZ:=Jq,CN:=Bmw,CR:=v182,C6:=false,CO:=Bmv,DC:=FP} Avk).bind λ (Buh,Bug,Blv,Buf,Bue,Bud,Bq2,Blu)=>cond (FP.length+Avk.length<10000000) (some (.inl (Bud,Bq2,Blu,(FP++Avk),Blv,Buf,Bue,false,Buh,Bug))) none))))) (cond OR (some (.inr ((MZ,e,Ho,Ii,Jq,b,a,true,JR,FP):Aa×Ab×Ac×Aa×Aa×Ah×Ao×Bool×Ak×Aa))) ((Hz {f with CP:=MZ,CQ:=e,closed:=Ho,Dm:=Ii,CZ:=Jq,CN:=b,CR:=a,C6:=true,CO:=JR,DC:=FP} 13 1 0).bind λ O4=>some (.inr ((MZ,e,Ho,Ii,Jq,b,a,true,O4,FP):Aa×Ab×Ac×Aa×Aa×Ah×Ao×Bool×Ak×Aa))))
def HC(a:DX):Option (Aa×Ab×Ac×Aa×Aa×Ah×Ao×Bool×Ak×Aa):=
 (C9 (Aee a) (a.CN,a.CR,a.CO,a.DC,a.closed,a.Dm,a.CZ,a.C6,a.CP,a.CQ)).bind (λ Bxx=>some Bxx)
theorem Jk{a r}(b:HC a=some r):
   Rq 134 [.ptr 1000000 0] (DX.h a) (DX.h ({a with CP:=r.1,CQ:=r.2.1,closed:=r.2.2.1,Dm:=r.2.2.2.1,CZ:=r.2.2.2.2.1,CN:=r.2.2.2.2.2.1,CR:=r.2.2.2.2.2.2.1,C6:=r.2.2.2.2.2.2.2.1,CO:=r.2.2.2.2.2.2.2.2.1,DC:=r.2.2.2.2.2.2.2.2.2})) (.Em []):=by
 refine EC func134 Aze ?_;unfold HC at b;obtain ⟨y,f,b⟩:=bE b;refine HV f [0] [] (λ _=>[]) (λ q=>DX.h ({a with CP:=q.2.2.2.2.2.2.2.2.1,CQ:=q.2.2.2.2.2.2.2.2.2,closed:=q.2.2.2.2.1,Dm:=q.2.2.2.2.2.1,CZ:=q.2.2.2.2.2.2.1,CN:=q.1,CR:=q.2.1,C6:=q.2.2.2.2.2.2.2.1,CO:=q.2.2.1,DC:=q.2.2.2.1})) ?_;rintro ⟨E,H,JR,FP,Ho,Ii,Jq,OR,MZ,I⟩ _ EI Ant;rw[Aee.eq_1] at EI;refine FI EI Atf λ _ EI=>?_;obtain ⟨_,EI⟩ | ⟨_,EI⟩:=cK EI
 . obtain ⟨_,EI⟩ | ⟨_,EI⟩:=cK EI
   . refine FI EI F6 λ _ EI=>?_;cases kR EI;exact zO b
   cases kR EI;exact zO b
 obtain ⟨_,EI⟩ | ⟨_,EI⟩:=cK EI
 . refine FI EI Aeh ?_;rintro ⟨_,_,_,_,_⟩ EI;obtain ⟨z,g,EI⟩:=bK EI;refine HV g [0,2] [] (λ q=>[(3,iD q.2.2.2.2.2)]) (λ q=>DX.h ({a with CP:=q.2.2.2.1,CQ:=q.2.2.2.2.1,closed:=Ho,Dm:=Ii,CZ:=Jq,CN:=q.1,CR:=q.2.1,C6:=OR,CO:=q.2.2.1,DC:=FP})) ?_;rintro ⟨K,j,N,Q,R,S⟩ _ Xv Bri;rw[L7.eq_1] at Xv;obtain ⟨_,Xv⟩ | ⟨_,Xv⟩:=cK Xv
   . cases kR Xv;obtain ⟨B,i,EI⟩:=bK EI;refine HV i [0,2] [] (λ q=>[(4,iD q.2.2.2.2)]) (λ q=>DX.h ({a with CP:=q.2.2.1,CQ:=q.2.2.2.1,closed:=Ho,Dm:=Ii,CZ:=Jq,CN:=q.1,CR:=j,C6:=OR,CO:=q.2.1,DC:=FP})) ?_;rintro ⟨WD,Yv,T,Zl,U⟩ _ Ey YM;rw[L8.eq_1] at Ey;obtain ⟨_,Ey⟩ | ⟨_,Ey⟩:=cK Ey
     . cases kR Ey;refine FI EI PS λ _ EI=>?_;obtain ⟨_,EI⟩ | ⟨_,EI⟩:=cK EI
       . refine FI EI Y3 ?_;rintro ⟨_,_,_,_,_,_,_,_⟩ EI;obtain ⟨e,EI⟩:=gK EI;refine G7 e ?_;exact AL (Ant _ _ (kI EI))
       cases kR EI;exact zO b
     obtain ⟨_,Ey,_⟩:=jK Da Ey;obtain ⟨_,Ey⟩ | ⟨_,Ey⟩:=cK Ey
     . exact AL (YM _ _ (kI Ey))
     obtain ⟨_,Ey⟩ | ⟨_,Ey⟩:=cK Ey
     . obtain ⟨_,Ey⟩ | ⟨_,Ey⟩:=cK Ey
       . obtain ⟨_,Ey⟩ | ⟨_,Ey⟩:=cK Ey
         . exact AL (YM _ _ (kI Ey))
         refine FI Ey G2 λ _ Ey=>?_;obtain ⟨_,Ey⟩ | ⟨_,Ey⟩:=cK Ey
         . exact AL (YM _ _ (kI Ey))
         refine FI Ey JB λ _ Ey=>?_;refine FI Ey FY ?_;rintro ⟨_,_,_,_⟩ Ey;exact AL (YM _ _ (kI Ey))
       refine FI Ey G2 λ _ Ey=>?_;obtain ⟨_,Ey⟩ | ⟨_,Ey⟩:=cK Ey
       . exact AL (YM _ _ (kI Ey))
       refine FI Ey JB λ _ Ey=>?_;refine FI Ey FY ?_;rintro ⟨_,_,_,_⟩ Ey;exact AL (YM _ _ (kI Ey))
     obtain ⟨_,Ey,_⟩:=jK DZ Ey;obtain ⟨_,Ey⟩ | ⟨_,Ey⟩:=cK Ey
     . refine FI Ey G2 λ _ Ey=>?_;obtain ⟨_,Ey⟩ | ⟨_,Ey⟩:=cK Ey
       . obtain ⟨_,Ey⟩ | ⟨_,Ey⟩:=cK Ey
         . obtain ⟨_,Ey⟩ | ⟨_,Ey⟩:=cK Ey
           . exact AL (YM _ _ (kI Ey))
           refine FI Ey G2 λ _ Ey=>?_;obtain ⟨_,Ey⟩ | ⟨_,Ey⟩:=cK Ey
           . exact AL (YM _ _ (kI Ey))
           refine FI Ey JB λ _ Ey=>?_;refine FI Ey FY ?_;rintro ⟨_,_,_,_⟩ Ey;exact AL (YM _ _ (kI Ey))
         refine FI Ey G2 λ _ Ey=>?_;obtain ⟨_,Ey⟩ | ⟨_,Ey⟩:=cK Ey
         . exact AL (YM _ _ (kI Ey))
         refine FI Ey JB λ _ Ey=>?_;refine FI Ey FY ?_;rintro ⟨_,_,_,_⟩ Ey;exact AL (YM _ _ (kI Ey))
       refine FI Ey HT ?_;rintro ⟨_,_,_,_⟩ Ey;exact AL (YM _ _ (kI Ey))
     refine FI Ey HT ?_;rintro ⟨_,_,_,_⟩ Ey;exact AL (YM _ _ (kI Ey))
   refine FI Xv Wl λ _ Xv=>?_;obtain ⟨_,Xv⟩ | ⟨_,Xv⟩:=cK Xv
   . exact AL (Bri _ _ (kI Xv))
   refine FI Xv Aej ?_;rintro ⟨_,_,_,_,_⟩ Xv;exact AL (Bri _ _ (kI Xv))
 refine FI EI F6 λ _ EI=>?_;refine FI EI Aeh ?_;rintro ⟨_,_,_,_,_⟩ EI;obtain ⟨k,Bzo,EI⟩:=bK EI;refine HV Bzo [0,2] [] (λ q=>[(3,iD q.2.2.2.2.2)]) (λ q=>DX.h ({a with CP:=q.2.2.2.1,CQ:=q.2.2.2.2.1,closed:=Ho,Dm:=Ii,CZ:=Jq,CN:=q.1,CR:=q.2.1,C6:=false,CO:=q.2.2.1,DC:=FP})) ?_;rintro ⟨m,Bwj,n,o,p,s⟩ _ Pk Blb;rw[L7.eq_1] at Pk;obtain ⟨_,Pk⟩ | ⟨_,Pk⟩:=cK Pk
 . cases kR Pk;obtain ⟨l,Bzn,EI⟩:=bK EI;refine HV Bzn [0,2] [] (λ q=>[(4,iD q.2.2.2.2)]) (λ q=>DX.h ({a with CP:=q.2.2.1,CQ:=q.2.2.2.1,closed:=Ho,Dm:=Ii,CZ:=Jq,CN:=q.1,CR:=Bwj,C6:=false,CO:=q.2.1,DC:=FP})) ?_;rintro ⟨t,u,v,w,x⟩ _ DL Qk;rw[L8.eq_1] at DL;obtain ⟨_,DL⟩ | ⟨_,DL⟩:=cK DL
   . cases kR DL;refine FI EI PS λ _ EI=>?_;obtain ⟨_,EI⟩ | ⟨_,EI⟩:=cK EI
     . refine FI EI Y3 ?_;rintro ⟨_,_,_,_,_,_,_,_⟩ EI;obtain ⟨Caj,EI⟩:=gK EI;refine G7 Caj ?_;exact AL (Ant _ _ (kI EI))
     cases kR EI;exact zO b
   obtain ⟨_,DL,_⟩:=jK Da DL;obtain ⟨_,DL⟩ | ⟨_,DL⟩:=cK DL
   . exact AL (Qk _ _ (kI DL))
   obtain ⟨_,DL⟩ | ⟨_,DL⟩:=cK DL
   . obtain ⟨_,DL⟩ | ⟨_,DL⟩:=cK DL
     . obtain ⟨_,DL⟩ | ⟨_,DL⟩:=cK DL
       . exact AL (Qk _ _ (kI DL))
       refine FI DL G2 λ _ DL=>?_;obtain ⟨_,DL⟩ | ⟨_,DL⟩:=cK DL
       . exact AL (Qk _ _ (kI DL))
       refine FI DL JB λ _ DL=>?_;refine FI DL FY ?_;rintro ⟨_,_,_,_⟩ DL;exact AL (Qk _ _ (kI DL))
     refine FI DL G2 λ _ DL=>?_;obtain ⟨_,DL⟩ | ⟨_,DL⟩:=cK DL
     . exact AL (Qk _ _ (kI DL))
     refine FI DL JB λ _ DL=>?_;refine FI DL FY ?_;rintro ⟨_,_,_,_⟩ DL;exact AL (Qk _ _ (kI DL))
   obtain ⟨_,DL,_⟩:=jK DZ DL;obtain ⟨_,DL⟩ | ⟨_,DL⟩:=cK DL
   . refine FI DL G2 λ _ DL=>?_;obtain ⟨_,DL⟩ | ⟨_,DL⟩:=cK DL
     . obtain ⟨_,DL⟩ | ⟨_,DL⟩:=cK DL
       . obtain ⟨_,DL⟩ | ⟨_,DL⟩:=cK DL
         . exact AL (Qk _ _ (kI DL))
         refine FI DL G2 λ _ DL=>?_;obtain ⟨_,DL⟩ | ⟨_,DL⟩:=cK DL
         . exact AL (Qk _ _ (kI DL))
         refine FI DL JB λ _ DL=>?_;refine FI DL FY ?_;rintro ⟨_,_,_,_⟩ DL;exact AL (Qk _ _ (kI DL))
       refine FI DL G2 λ _ DL=>?_;obtain ⟨_,DL⟩ | ⟨_,DL⟩:=cK DL
       . exact AL (Qk _ _ (kI DL))
       refine FI DL JB λ _ DL=>?_;refine FI DL FY ?_;rintro ⟨_,_,_,_⟩ DL;exact AL (Qk _ _ (kI DL))
     refine FI DL HT ?_;rintro ⟨_,_,_,_⟩ DL;exact AL (Qk _ _ (kI DL))
   refine FI DL HT ?_;rintro ⟨_,_,_,_⟩ DL;exact AL (Qk _ _ (kI DL))
 refine FI Pk Wl λ _ Pk=>?_;obtain ⟨_,Pk⟩ | ⟨_,Pk⟩:=cK Pk
 . exact AL (Blb _ _ (kI Pk))
 refine FI Pk Aej ?_;rintro ⟨_,_,_,_,_⟩ Pk;exact AL (Blb _ _ (kI Pk))
def QY(e:Lm):Ah×Int->Option ((Ah×Int)⊕((Ah×Int)))
 | (b,a)=>cond (a<(e.CN.length:Int)) ((CU e.CN a).bind λ JD=>cond (JD.Db.length<10000000) (cond (b.length+1<10000000) (some (.inl ((b++[JD]),(i64.wrap (a+1))))) none) none) (some (.inr (b,a)))
def IL(a:Lm):Option (Lm):=
 (H5 (⟨a.CP,a.CQ⟩:KI)).bind λ e=>(Jw (⟨a.closed,a.Dm,a.CZ⟩:Mc) (-1)).bind λ b=>cond (a.CR.length<10000000) ((C9 (QY a) ([],0)).bind (λ (Mu,O6)=>some (⟨e.CP,e.CQ,b.closed,b.Dm,b.CZ,Mu,a.CR,a.C6⟩:Lm))) none
theorem Ajd{b r}(a:IL b=some r):
   Rq 76 [.agg b.c] [] [(0,.arr 3 1 (CS r.CP)),(1,.arr 23 1 (Dy r.CQ)),(2,.arr 4 1 (Dl r.closed)),(3,.arr 3 1 (CS r.Dm)),(4,.arr 3 1 (CS r.CZ)),(5,.arr 171 13 (Ec r.CN)),(6,.arr 229 5 (DE r.CR))] (.agg [rD 0 r.CP,rD 1 r.CQ,rD 2 r.closed,rD 3 r.Dm,rD 4 r.CZ,rD 5 r.CN,rD 6 r.CR,bD r.C6]):=by
 refine EC func76 Bf7 ?_;unfold IL at a;refine Ex [1] [0,10,30,40,60,70,90,100,121,22,52,82,110,133] ?_;refine FH a Nq λ f a=>?_;refine FH a K5 λ e a=>?_;obtain ⟨l,a⟩:=gE a;refine G7 l ?_;obtain ⟨m,k,a⟩:=bE a;refine A ?_;refine E0 k (λ q=>⟨[(1,.ptr 1 0),(2,.ptr 2 0),(3,.ptr 3 0),(4,iD q.2)],[(1,.box b.c),(2,.box [.cl [],.cl [],.cl [],.cl [],.cl [],.cl [],.cl [],bD false]),(3,.box [rD 10008 f.CP,rD 20008 f.CQ,rD 10011 e.closed,rD 20011 e.Dm,rD 30011 e.CZ,rD 38 q.1,rD 14 b.CR,bD b.C6]),(14,.arr 229 5 (DE b.CR)),(38,.arr 171 13 (Ec q.1)),(10008,.arr 3 1 (CS f.CP)),(10011,.arr 4 1 (Dl e.closed)),(20008,.arr 23 1 (Dy f.CQ)),(20011,.arr 3 1 (CS e.Dm)),(30011,.arr 3 1 (CS e.CZ))],41⟩) ((Wk.EP (id:=3) (j:=5) (q:=38) (sz:=13) 171 rfl rfl rfl AV).trans Wr) ?_;rintro ⟨n,o⟩ _ Fs Anu;rw[QY.eq_1] at Fs;obtain ⟨_,Fs⟩ | ⟨_,Fs⟩:=cK Fs
 . cases kR Fs;exact zO a
 obtain ⟨_,Fs,_⟩:=jK Da Fs;obtain ⟨g,Fs⟩:=gK Fs;refine G7 g ?_;obtain ⟨i,Fs⟩:=gK Fs;refine G7 i ?_;exact AL (Anu _ _ (kI Fs))
theorem K2{a r}(b:IL a=some r):
   Rq 76 [.agg a.c] [] [(0,.arr 171 13 (Ec r.CN)),(1,.arr 229 5 (DE r.CR))] (.agg [sD (CS r.CP),sD (Dy r.CQ),sD (Dl r.closed),sD (CS r.Dm),sD (CS r.CZ),rD 0 r.CN,rD 1 r.CR,bD r.C6]):=by
 refine C3.Bch (Ajd b) ?_;rintro h d ⟨rfl,rfl⟩;refine ⟨[(true,rD 0 r.CP),(true,rD 1 r.CQ),(true,rD 2 r.closed),(true,rD 3 r.Dm),(true,rD 4 r.CZ),(false,rD 5 r.CN),(false,rD 6 r.CR),(false,bD r.C6)],rfl,?_⟩;simp only[go_sem,Aeq,HH,bor]
def QZ(e:Ldg):Ah×Int->Option ((Ah×Int)⊕((Ah×Int)))
 | (b,a)=>cond (a<(e.CN.length:Int)) ((CU e.CN a).bind λ I7=>cond (b.length+1<10000000) (some (.inl ((b++[(⟨I7.state,I7.E7,I7.Eu,0,0,0,false,false,0,0,[],0,0⟩:KM)]),(i64.wrap (a+1))))) none) (some (.inr (b,a)))
def NG(a:Ldg):Option (Ldg):=
 (Jw (⟨a.closed,a.Dm,a.CZ⟩:Mc) (-1)).bind λ b=>cond (a.CR.length<10000000) ((C9 (QZ a) ([],0)).bind (λ (MZ,v20)=>some (⟨b.closed,b.Dm,b.CZ,a.CR,MZ⟩:Ldg))) none
theorem Ajf{e r}(a:NG e=some r):
   Rq 164 [.agg e.c] [] [(0,.arr 4 1 (Dl r.closed)),(1,.arr 3 1 (CS r.Dm)),(2,.arr 3 1 (CS r.CZ)),(3,.arr 229 5 (DE r.CR)),(4,.arr 171 13 (Ec r.CN))] (.agg [rD 0 r.closed,rD 1 r.Dm,rD 2 r.CZ,rD 3 r.CR,rD 4 r.CN]):=by
 refine EC func164 Ayr ?_;unfold NG at a;refine Ex [1] [0,10,30,40,71,22,52,60,83] ?_;refine FH a K5 λ b a=>?_;obtain ⟨k,a⟩:=gE a;refine G7 k ?_;obtain ⟨l,g,a⟩:=bE a;refine A ?_;refine E0 g (λ q=>⟨[(1,.ptr 1 0),(2,.ptr 2 0),(3,.ptr 3 0),(4,iD q.2)],[(1,.box e.c),(2,.box [.cl [],.cl [],.cl [],.cl [],.cl []]),(3,.box [rD 10008 b.closed,rD 20008 b.Dm,rD 30008 b.CZ,rD 11 e.CR,rD 35 q.1]),(11,.arr 229 5 (DE e.CR)),(35,.arr 171 13 (Ec q.1)),(10008,.arr 4 1 (Dl b.closed)),(20008,.arr 3 1 (CS b.Dm)),(30008,.arr 3 1 (CS b.CZ))],38⟩) ((Wk.EP (id:=3) (j:=4) (q:=35) (sz:=13) 171 rfl rfl rfl AV).trans Wr) ?_;rintro ⟨m,n⟩ _ Fv i;rw[QZ.eq_1] at Fv;obtain ⟨_,Fv⟩ | ⟨_,Fv⟩:=cK Fv
 . cases kR Fv;exact zO a
 obtain ⟨_,Fv,_⟩:=jK Da Fv;obtain ⟨f,Fv⟩:=gK Fv;refine G7 f ?_;exact AL (i _ _ (kI Fv))
theorem Aje{a r}(b:NG a=some r):
   Rq 164 [.agg a.c] [] [(0,.arr 3 1 (CS r.CZ)),(1,.arr 229 5 (DE r.CR)),(2,.arr 171 13 (Ec r.CN))] (.agg [sD (Dl r.closed),sD (CS r.Dm),rD 0 r.CZ,rD 1 r.CR,rD 2 r.CN]):=by
 refine C3.Bch (Ajf b) ?_;rintro h d ⟨rfl,rfl⟩;refine ⟨[(true,rD 0 r.closed),(true,rD 1 r.Dm),(false,rD 2 r.CZ),(false,rD 3 r.CR),(false,rD 4 r.CN)],rfl,?_⟩;simp only[go_sem,Aeq,HH,bor]
def Pa(a:Lm):Ah×Int->Option ((Ah×Int)⊕((Ah×Int)))
 | (Ii,Jq)=>cond (Jq<(a.CN.length:Int)) ((CU a.CN Jq).bind λ Wu=>cond (Ii.length+1<10000000) (some (.inl ((Ii++[(⟨Wu.state,Wu.E7,Wu.Eu,0,0,0,false,false,0,0,[],0,0⟩:KM)]),(i64.wrap (Jq+1))))) none) (some (.inr (Ii,Jq)))
def Zp:Lp (Ao×Int) (Ao×Int)
 | (b,a)=>cond (a<(b.length:Int)) ((CU b a).bind λ OK=>some (.inl ((b.set a.toNat {OK with over:=0}),(i64.wrap (a+1))))) (some (.inr (b,a)))
def NR(a:Lm):Option (Ldg):=
 (Jw (⟨a.closed,a.Dm,a.CZ⟩:Mc) (-1)).bind λ b=>cond (a.CR.length<10000000) ((C9 Zp (a.CR,0)).bind (λ (RQ,v36)=>(C9 (Pa a) ([],0)).bind (λ (v52,v53)=>some (⟨b.closed,b.Dm,b.CZ,RQ,v52⟩:Ldg)))) none
theorem Aja{e r}(a:NR e=some r):
   Rq 120 [.agg e.c] [] [] (.agg r.c):=by
 refine EC func120 Azr ?_;unfold NR at a;refine Ex [1] [0,10,30,40,71,22,52,60,83] ?_;refine FH a K5 λ b a=>?_;obtain ⟨m,a⟩:=gE a;refine G7 m ?_;obtain ⟨n,g,a⟩:=bE a;refine HV g [1,2,3] [1,2,10009,20009,30009] (λ q=>[(4,iD q.2)]) (λ q=>[(3,.box [rD 10009 b.closed,rD 20009 b.Dm,rD 30009 b.CZ,rD 12 q.1,.cl []]),(12,.arr 229 5 (DE q.1))]) ?_;rintro ⟨l,p⟩ _ Fv k;rw[Zp.eq_1] at Fv;obtain ⟨_,Fv⟩ | ⟨_,Fv⟩:=cK Fv
 . cases kR Fv;obtain ⟨o,i,a⟩:=bE a;refine A ?_;refine E0 i (λ q=>⟨[(1,.ptr 1 0),(2,.ptr 2 0),(3,.ptr 3 0),(5,iD q.2)],[(1,.box e.c),(2,.box [.cl [],.cl [],.cl [],.cl [],.cl []]),(3,.box [rD 10009 b.closed,rD 20009 b.Dm,rD 30009 b.CZ,rD 12 l,rD 48 q.1]),(12,.arr 229 5 (DE l)),(48,.arr 171 13 (Ec q.1)),(10009,.arr 4 1 (Dl b.closed)),(20009,.arr 3 1 (CS b.Dm)),(30009,.arr 3 1 (CS b.CZ))],51⟩) ((Wk.EP (id:=3) (j:=4) (q:=48) (sz:=13) 171 rfl rfl rfl AV).trans Wr) ?_;rintro ⟨Ii,Jq⟩ _ Na Bnu;rw[Pa.eq_1] at Na;obtain ⟨_,Na⟩ | ⟨_,Na⟩:=cK Na
   . cases kR Na;exact zP a
   obtain ⟨_,Na,_⟩:=jK Da Na;obtain ⟨f,Na⟩:=gK Na;refine G7 f ?_;exact AL (Bnu _ _ (kI Na))
 obtain ⟨_,Fv,_⟩:=jK EF Fv;exact AL (k _ _ (kI Fv))
def LL(f:Nt)(e:Lm)(a:Int):Option (Nc×Int):=
 (u_r03_Valid_v f).bind λ g=>cond g (cond (a<0) (some ((⟨[],[],[],[],[]⟩:Nc),19)) (cond ((e.CN.length:Int)<=a) (some ((⟨[],[],[],[],[]⟩:Nc),19)) ((CU e.CN a).bind λ b=>cond (b.state=1) (cond (b.E9=(-1)) (some ((⟨[],[],[],[],[]⟩:Nc),0)) (cond b.LF (some ((⟨[],[],[],[],[]⟩:Nc),0)) ((Ks ({b with LF:=false}:KM) a).bind λ Lq=>some ((⟨[Lq],[],[],[],[]⟩:Nc),0)))) (some ((⟨[],[],[],[],[]⟩:Nc),0))))) (some ((⟨[],[],[],[],[]⟩:Nc),20))
theorem WN{b e f r}(a:LL b e f=some r):
   Rq 85 [.agg b.c,.agg e.c,iD f] [] [] (.Em [.agg r.1.c,iD r.2]):=by
 refine EC func85 Bez ?_;unfold LL at a;refine Eb a FW λ _ a=>?_;refine cP a λ _ a=>?_;obtain ⟨_,a⟩ | ⟨_,a⟩:=cE a
 . obtain ⟨_,a⟩ | ⟨_,a⟩:=cE a
   . obtain ⟨_,a,_⟩:=jE Da a;refine cP a λ _ a=>?_;obtain ⟨_,a⟩ | ⟨_,a⟩:=cE a
     . obtain ⟨_,a⟩ | ⟨_,a⟩:=cE a
       . refine Eb a O9 λ _ a=>?_;exact zP a
       exact zP a
     exact zP a
   exact zP a
 exact zP a
def LM(e:Nt)(f:Lm)(b:UO):Option (Lm×Nc×Int):=
 (u_r03_Valid_v e).bind λ g=>cond g ((IL f).bind λ a=>(II b).bind λ i=>cond i (cond (b.kind=1) (some (a,(⟨[],[],[],[],[]⟩:Nc),0)) (cond ((f.CN.length:Int)<=b.CY) (some (a,(⟨[],[],[],[],[]⟩:Nc),0)) ((CU f.CN b.CY).bind λ GS=>cond (GS.state=1) ((CU a.CN b.CY).bind λ JD=>cond (b.kind=3) (cond (b.flag=0) (cond (b.seq=JD.seq) (some (({a with CN:=(a.CN.set b.CY.toNat {JD with LF:=true})}:Lm),(⟨[],[],[],[],[]⟩:Nc),0)) (some (a,(⟨[],[],[],[],[]⟩:Nc),0))) (some (a,(⟨[],[],[],[],[]⟩:Nc),0))) (cond (JD.seq<b.seq) (some (a,(⟨[],[],[],[],[]⟩:Nc),0)) (cond (b.seq=JD.seq) ((QN {e with CP:=a.CP,CQ:=a.CQ,closed:=a.closed,Dm:=a.Dm,CZ:=a.CZ,CN:=a.CN,CR:=a.CR,C6:=a.C6,DV:=[({b with kind:=3,cell:=0}:UO)],CO:=[],Fy:=[],DN:=[],DC:=[]} b.CY).bind λ (PY,Wu,G8)=>cond (b.flag=2) ((QJ {e with CP:=PY,CQ:=Wu,closed:=a.closed,Dm:=a.Dm,CZ:=a.CZ,CN:=G8,CR:=a.CR,C6:=a.C6,DV:=[({b with kind:=3,cell:=0}:UO)],CO:=[],Fy:=[],DN:=[],DC:=[]} b.CY).bind λ (ON,T0,O4,OK,LG)=>some ((⟨ON,T0,a.closed,a.Dm,a.CZ,O4,OK,a.C6⟩:Lm),(⟨[({b with kind:=3,cell:=0}:UO)],LG,[],[],[]⟩:Nc),0)) (some (({a with CP:=PY,CQ:=Wu,CN:=G8}:Lm),(⟨[({b with kind:=3,cell:=0}:UO)],[],[],[],[]⟩:Nc),0))) (some (a,(⟨[({b with kind:=3,cell:=0}:UO)],[],[],[],[]⟩:Nc),0))))) (some (a,(⟨[],[],[],[],[]⟩:Nc),0))))) (some (a,(⟨[],[],[],[],[]⟩:Nc),0))) (some ((⟨[],[],[],[],[],[],[],false⟩:Lm),(⟨[],[],[],[],[]⟩:Nc),20))
theorem Zq{e f g r}(a:LM e f g=some r):
   Rq 82 [.agg e.c,.agg f.c,.agg g.c] [] [] (.Em [.agg r.1.c,.agg r.2.1.c,iD r.2.2]):=by
 refine EC func82 Bf2 ?_;unfold LM at a;refine Eb a FW λ _ a=>?_;refine cP a λ _ a=>?_;refine Dd [0,0,2,0,1,0] ?_;refine FH a K2 λ _ a=>?_;refine Eb a RT λ _ a=>?_;obtain ⟨_,a⟩ | ⟨_,a⟩:=cE a
 . refine C4 [20] [0,0,0,0,0,0,0,0,2,2,0] ?_;exact zP a
 obtain ⟨_,a⟩ | ⟨_,a⟩:=cE a
 . obtain ⟨_,a⟩ | ⟨_,a⟩:=cE a
   . obtain ⟨_,a,_⟩:=jE Da a;obtain ⟨_,a⟩ | ⟨_,a⟩:=cE a
     . refine C4 [20] [0,0,0,0,0,0,0,0,2,2,0] ?_;exact zP a
     refine Dd [0,0,0,0,0,0,0,0,0] ?_;obtain ⟨_,a,_⟩:=jE Da a;obtain ⟨_,a⟩ | ⟨_,a⟩:=cE a
     . refine Dd [0,0,0,0,0,0,0] ?_;obtain ⟨_,a⟩ | ⟨_,a⟩:=cE a
       . refine C4 [5,20] [0,0,0,0,0,0,0,0,0,0,0,0,0,1,2,0,0,0,3] ?_;refine A ?_;refine ⟨by (try simp only[Br,Bx,Bw] at*);(repeat' refine And.intro ?_ ?_)<;>first | exact Lr _ _ rfl | exact QG _ | omega | (simp[PX];done),?_⟩;refine Dd [0,0,0,0,0,0,0] ?_;obtain ⟨_,a⟩ | ⟨_,a⟩:=cE a
         . refine C4 [20] [0,0,0,0,0,0,0,0,2,2,0] ?_;exact zP a
         obtain ⟨⟨_,_,_⟩,b,a⟩:=bE a;refine A ?_;refine Nl ((Wk.EP (id:=20) (j:=17) (q:=520017) (sz:=4) 242 rfl rfl rfl AV).trans ((Wk.EP (id:=20) (j:=18) (q:=520018) (sz:=2) 205 rfl rfl rfl AV).trans ((Wk.EP (id:=20) (j:=19) (q:=520019) (sz:=1) 3 rfl rfl rfl AV).trans (Wk.EP (id:=20) (j:=20) (q:=520020) (sz:=1) 3 rfl rfl rfl AV)))) ?_;(try simp only[go_sem, *,BR,BT]);refine CcD (Apz b) ?_;obtain ⟨_,a⟩ | ⟨_,a⟩:=cE a
         . refine C4 [20] [0,0,0,0,0,0,0,0,2,2,0] ?_;exact zP a
         refine Eb a Apm ?_;rintro ⟨_,_,_,_,_⟩ a;refine C4 [20] [0,0,0,0,0,0,0,0,2,2,0] ?_;exact zP a
       refine C4 [20] [0,0,0,0,0,0,0,0,2,2,0] ?_;exact zP a
     refine Dd [0,0,0,0,0,0,0,0,0,0,0,0] ?_;obtain ⟨_,a⟩ | ⟨_,a⟩:=cE a
     . refine C4 [20] [0,0,0,0,0,0,0,0,2,2,0] ?_;exact zP a
     obtain ⟨_,a⟩ | ⟨_,a⟩:=cE a
     . refine C4 [20] [0,0,0,0,0,0,0,0,2,2,0] ?_;exact zP a
     refine C4 [20] [0,0,0,0,0,0,0,0,2,2,0] ?_;exact zP a
   refine C4 [20] [0,0,0,0,0,0,0,0,2,2,0] ?_;exact zP a
 refine C4 [20] [0,0,0,0,0,0,0,0,2,2,0] ?_;exact zP a
def NS(e:Nt)(f:Lm)(b:Int):Option (Lm×Nc×Int):=
 (u_r03_Valid_v e).bind λ g=>cond g (cond (b<0) (some ((⟨[],[],[],[],[],[],[],false⟩:Lm),(⟨[],[],[],[],[]⟩:Nc),19)) (cond ((f.CN.length:Int)<=b) (some ((⟨[],[],[],[],[],[],[],false⟩:Lm),(⟨[],[],[],[],[]⟩:Nc),19)) ((IL f).bind λ a=>(CU f.CN b).bind λ i=>cond (i.state=1) ((Pq {e with CP:=a.CP,CQ:=a.CQ,closed:=a.closed,Dm:=a.Dm,CZ:=a.CZ,CN:=a.CN,CR:=a.CR,C6:=a.C6,DV:=[],CO:=[],Fy:=[],DN:=[],DC:=[]} [b]).bind λ (Lq,I7,Jp,JD,HB,RO,OL,Sj)=>(HC {e with CP:=Lq,CQ:=I7,closed:=Jp,Dm:=JD,CZ:=HB,CN:=RO,CR:=OL,C6:=a.C6,DV:=[],CO:=Sj,Fy:=[],DN:=[],DC:=[]}).bind λ (Fo,PY,Wu,G8,OP,Nn,ON,T0,O4,OK)=>some ((⟨Fo,PY,Wu,G8,OP,Nn,ON,T0⟩:Lm),(⟨[],O4,[],[],OK⟩:Nc),0)) (some (a,(⟨[],[],[],[],[]⟩:Nc),0))))) (some ((⟨[],[],[],[],[],[],[],false⟩:Lm),(⟨[],[],[],[],[]⟩:Nc),20))
theorem Ajb{e f g r}(a:NS e f g=some r):
   Rq 90 [.agg e.c,.agg f.c,iD g] [] [] (.Em [.agg r.1.c,.agg r.2.1.c,iD r.2.2]):=by
 refine EC func90 Bev ?_;unfold NS at a;refine Eb a FW λ _ a=>?_;refine cP a λ _ a=>?_;obtain ⟨_,a⟩ | ⟨_,a⟩:=cE a
 . obtain ⟨_,a⟩ | ⟨_,a⟩:=cE a
   . refine Dd [0,0,2,0,1,0] ?_;refine FH a K2 λ _ a=>?_;obtain ⟨_,a,_⟩:=jE Da a;obtain ⟨_,a⟩ | ⟨_,a⟩:=cE a
     . refine C4 [30] [0,0,0,0,0,0,0,0,2,2,0] ?_;exact zP a
     obtain ⟨⟨_,_,_,_,_,_,_,_⟩,b,a⟩:=bE a;refine A ?_;refine Nl ((Wk.EP (id:=30) (j:=16) (q:=530016) (sz:=5) 178 rfl rfl rfl AV).trans ((Wk.EP (id:=30) (j:=17) (q:=530017) (sz:=4) 242 rfl rfl rfl AV).trans ((Wk.EP (id:=30) (j:=18) (q:=530018) (sz:=2) 205 rfl rfl rfl AV).trans ((Wk.EP (id:=30) (j:=19) (q:=530019) (sz:=1) 3 rfl rfl rfl AV).trans (Wk.EP (id:=30) (j:=20) (q:=530020) (sz:=1) 3 rfl rfl rfl AV))))) ?_;(try simp only[go_sem, *,BR,BT]);refine CcD (Y3 b) ?_;refine Eb a Jk ?_;rintro ⟨_,_,_,_,_,_,_,_,_,_⟩ a;refine C4 [30] [0,0,0,0,0,0,0,0,2,2,0] ?_;exact zP a
   exact zP a
 exact zP a
def JK(a:DX)(b:KM):Option (Int×Bool):=
 cond (b.state=1) (cond (b.Du=0) (cond (b.E9=(-1)) ((K1 (⟨a.blocks,a.next,a.CT,a.C7,a.cq,a.ca,a.cd,a.cp⟩:Nt) b.cell).bind λ e=>cond (0<=e) ((Kw (⟨a.blocks,a.next,a.CT,a.C7,a.cq,a.ca,a.cd,a.cp⟩:Nt) e).bind λ f=>some (e,decide (b.cell=f))) (some (e,false))) (some ((-1),false))) (some ((-1),false))) (some ((-1),false))
theorem R5{b e r}(a:JK b e=some r):
   Rq 143 [.ptr 1000000 0,.agg e.c] (DX.h2 b) (DX.h2 b) (.Em [iD r.1,bD r.2]):=by
 refine EC func143 Ahs ?_;unfold JK at a;refine cO a λ _ a=>?_;refine cO a λ _ a=>?_;refine cO a λ _ a=>?_;refine Dd [0,0,0,0,0,0,2,0] ?_;refine FH a NQ λ _ a=>?_;refine Dd [0,0,0,0,0,0,0,0,0,0,0,2,0,0,0,0] ?_;refine cO a λ _ a=>?_;refine FH a Pf λ _ a=>?_;exact zO a
def Kp(a:DX)(i:Int):Int×Int×Bool×Int->Option ((Int×Int×Bool×Int)⊕((Int×Int×Bool×Int)))
 | (e,f,g,b)=>cond (b<(a.CN.length:Int)) ((CU a.CN b).bind λ Jp=>(JK a Jp).bind λ (OL,Sj)=>cond Sj (cond (OL=Jp.Eu) (cond Jp.E7 (some (.inl (e,f,g,(i64.wrap (b+1))))) (cond (i<0) (some (.inl (e,f,true,(i64.wrap (b+1))))) ((NT (⟨a.blocks,a.next,a.CT,a.C7,a.cq,a.ca,a.cd,a.cp⟩:Nt) (⟨a.closed,a.Dm,a.CZ⟩:Mc) Jp.cell i).bind λ (OP,Nn)=>cond Nn (cond (e<0) (some (.inl (b,(OP.length:Int),true,(i64.wrap (b+1))))) (cond ((OP.length:Int)<f) (some (.inl (b,(OP.length:Int),true,(i64.wrap (b+1))))) (some (.inl (e,f,true,(i64.wrap (b+1))))))) (some (.inl (e,f,true,(i64.wrap (b+1)))))))) (some (.inl (e,f,g,(i64.wrap (b+1)))))) (some (.inl (e,f,g,(i64.wrap (b+1)))))) (some (.inr (e,f,g,b)))
def GU(a:DX)(b:Int):Option (Int×Bool):=
 (C9 (Kp a b) ((-1),0,false,0)).bind (λ (v32,UU,Mt,RQ)=>some (v32,Mt))
theorem JS{a f r}(b:GU a f=some r):
   Rq 145 [.ptr 1000000 0,iD f] (DX.h2 a) (DX.h2 a) (.Em [iD r.1,bD r.2]):=by
 refine EC func145 Az5 ?_;unfold GU at b;obtain ⟨g,e,b⟩:=bE b;refine HV e [0,1] [] (λ q=>[(6,iD q.1),(7,iD q.2.1),(8,bD q.2.2.1),(9,iD q.2.2.2)]) (λ _=>DX.h2 a) ?_;rintro ⟨i,j,k,l⟩ _ EU MK;rw[Kp.eq_1] at EU;obtain ⟨_,EU⟩ | ⟨_,EU⟩:=cK EU
 . cases kR EU;exact zO b
 obtain ⟨_,EU,_⟩:=jK Da EU;refine FI EU R5 ?_;rintro ⟨_,_⟩ EU;obtain ⟨_,EU⟩ | ⟨_,EU⟩:=cK EU
 . exact AL (MK _ _ (kI EU))
 obtain ⟨_,EU⟩ | ⟨_,EU⟩:=cK EU
 . exact AL (MK _ _ (kI EU))
 obtain ⟨_,EU⟩ | ⟨_,EU⟩:=cK EU
 . obtain ⟨_,EU⟩ | ⟨_,EU⟩:=cK EU
   . refine Dd [0,0,0,0,0,0,0,0,0,0,0,0,2,0,0,0,0,0] ?_;refine Sh EU Abf ?_;rintro ⟨_,_⟩ EU;obtain ⟨_,EU⟩ | ⟨_,EU⟩:=cK EU
     . exact AL (MK _ _ (kI EU))
     obtain ⟨_,EU⟩ | ⟨_,EU⟩:=cK EU
     . obtain ⟨_,EU⟩ | ⟨_,EU⟩:=cK EU
       . exact AL (MK _ _ (kI EU))
       exact AL (MK _ _ (kI EU))
     exact AL (MK _ _ (kI EU))
   exact AL (MK _ _ (kI EU))
 exact AL (MK _ _ (kI EU))
def Aed(a:DX)(e:Ah)(b:Ao):Ac×Int->Option ((Ac×Int)⊕((Ac×Int)))
 | (Mu,O6)=>cond (O6<(b.length:Int)) ((SL (⟨a.blocks,a.next,a.CT,a.C7,a.cq,a.ca,a.cd,a.cp⟩:Nt) e b O6).bind λ TY=>cond (Mu.length+1<10000000) (some (.inl ((Mu++[TY]),(i64.wrap (O6+1))))) none) (some (.inr (Mu,O6)))
def Aec(i:DX):Ah×Ak×Ao×Aa×Ab->Option ((Ah×Ak×Ao×Aa×Ab)⊕((Aa×Ab×Ah×Ao×Ak)))
 | (b,j,e,g,a)=>(GU {i with CP:=g,CQ:=a,CN:=b,CR:=e,CO:=j} (-1)).bind λ (JD,HB)=>cond HB ((C9 (Aed i b e) ([],0)).bind (λ (v67,v68)=>(P6 e v67 i.ca).bind λ UQ=>cond (UQ<0) (some (.inr ((g,a,b,e,j):Aa×Ab×Ah×Ao×Ak))) ((CU e UQ).bind λ l=>(GU {i with CP:=g,CQ:=a,CN:=b,CR:=e,CO:=j} l.pick).bind λ (x76,x77)=>cond (x76<0) (some (.inr ((g,a,b,e,j):Aa×Ab×Ah×Ao×Ak))) ((NU e UQ x76).bind λ f=>(Hz {i with CP:=g,CQ:=a,CN:=b,CR:=f,CO:=j} 2 UQ x76).bind λ Zk=>(CU b x76).bind λ k=>(CU (b.set x76.toNat {k with DY:=UQ}) x76).bind λ m=>(CU f UQ).bind λ n=>(GJ {i with CP:=g,CQ:=a,CN:=(b.set x76.toNat {k with DY:=UQ}).set x76.toNat {m with Du:=1},CR:=f,CO:=Zk} x76 n.pick).bind λ (Si,x98,x99,Bc2)=>some (.inl (x99,Bc2,f,Si,x98)))))) (some (.inr ((g,a,b,e,j):Aa×Ab×Ah×Ao×Ak)))
def QI(a:DX):Option (Aa×Ab×Ah×Ao×Ak):=
 (C9 (Aec a) (a.CN,a.CO,a.CR,a.CP,a.CQ)).bind (λ By0=>some By0)
theorem AX{p:Prop}(h:p:=by simp[ZE,ZEu,DX.h,GF.h,DX.h2,GF.h2]):p:=h
theorem Apj{b r}(a:QI b=some r):
   Rq 94 [.ptr 1000000 0] (DX.h2 b) (DX.h2 ({b with CP:=r.1,CQ:=r.2.1,CN:=r.2.2.1,CR:=r.2.2.2.1,CO:=r.2.2.2.2})) (.Em []):=by
 refine EC func94 Ber ?_;unfold QI at a;obtain ⟨o,i,a⟩:=bE a;refine HV i [0] [] (λ _=>[]) (λ q=>DX.h2 ({b with CP:=q.2.2.2.1,CQ:=q.2.2.2.2,CN:=q.1,CR:=q.2.2.1,CO:=q.2.1})) ?_;rintro ⟨s,u,v,w,n⟩ _ Dp L1;rw[Aec.eq_1] at Dp;refine FI Dp JS ?_;rintro ⟨_,_⟩ Dp;obtain ⟨_,Dp⟩ | ⟨_,Dp⟩:=cK Dp
 . cases kR Dp;exact zO a
 obtain ⟨p,k,Dp⟩:=bK Dp;refine A ?_;refine E0 k (λ q=>⟨[(0,.ptr 1000000 0),(4,rD 44 q.1),(5,iD q.2)],(DX.h2 ({b with CP:=w,CQ:=n,CN:=s,CR:=v,CO:=u})++[(44,.arr 4 1 (Dl q.1))]),121⟩) ((Wk.nil (t:=4) (q:=44) (sz:=1) 4 rfl rfl AV).trans Wr) ?_;rintro ⟨Mu,O6⟩ _ Hy Asg;rw[Aed.eq_1] at Hy;obtain ⟨_,Hy⟩ | ⟨_,Hy⟩:=cK Hy
 . cases kR Hy;(try dsimp only at Dp);refine Dd [0,0,0,0,0,0,0,0,0,0,0,0,2,0] ?_;obtain ⟨_,l,Dp⟩:=bK Dp;refine A ?_;refine GhB (Amj l) ?_;obtain ⟨_,Dp⟩ | ⟨_,Dp⟩:=cK Dp
   . obtain ⟨_,Dp,_⟩:=jK EF Dp;refine FI Dp JS ?_;rintro ⟨_,_⟩ Dp;obtain ⟨_,Dp⟩ | ⟨_,Dp⟩:=cK Dp
     . refine FI Dp Afd λ KO Dp=>?_;refine FI Dp F6 λ _ Dp=>?_;refine Dd [0,0,0,0,0,0,0,0,0,0,0,0,0,0,0,4,4,4,4] ?_;obtain ⟨_,Dp,_⟩:=jK Da Dp;obtain ⟨_,Dp,_,g,_⟩:=jK Da Dp;have _:=sl g;obtain ⟨_,Dp,_⟩:=jK EF Dp;refine FI Dp FY ?_;rintro ⟨_,_,_,_⟩ Dp;refine A ?_;exact L1 _ _ (kI Dp) ((Wk.EA (id:=1000000) (j:=14) (q:=10084) (sz:=5) (e:=229) (es:=DE KO) rfl AX rfl).trans Wr)
     cases kR Dp;exact zO a
   cases kR Dp;exact zO a
 refine C4 [1000000] [0,0,0,0,0,0,0,0,0,0,0,0,0,0,0,0,2,1,2,0] ?_;obtain ⟨_,m,Hy⟩:=bK Hy;refine A ?_;refine GhB (Ara m) ?_;obtain ⟨f,Hy⟩:=gK Hy;refine G7 f ?_;exact AL (Asg _ _ (kI Hy))
def WR(f:Aa)(g:Ab):Ah×Int->Option ((Ah×Int)⊕((Ah×Int)))
 | (b,a)=>cond (a<(b.length:Int)) ((K6 (⟨f,g⟩:KI) a).bind λ i=>cond (0<=i) ((CU b a).bind λ e=>some (.inl ((b.set a.toNat {e with wait:=(if 16<(i64.wrap (e.wait+1)) then 16 else (i64.wrap (e.wait+1)))}),(i64.wrap (a+1))))) (some (.inl (b,(i64.wrap (a+1)))))) (some (.inr (b,a)))
def WQ(b:Nt)(e:Lm)(f:Ac)(g:Aa)(i:Aa)(JD:Aa):Ah×Au×Ak×AB×Ao×Aa×Ab->Option ((Ah×Au×Ak×AB×Ao×Aa×Ab)⊕((Ah×Au×Ak×AB×Ao×Aa×Ab)))
 | (j,a,k,UU,Mt,RQ,l)=>(QI {b with CP:=RQ,CQ:=l,closed:=f,Dm:=g,CZ:=i,CN:=j,CR:=Mt,C6:=e.C6,DV:=a,CO:=k,Fy:=UU,DN:=JD,DC:=[]}).bind λ (x42,x43,x44,Mr,Pw)=>(OC {b with CP:=x42,CQ:=x43,closed:=f,Dm:=g,CZ:=i,CN:=x44,CR:=Mr,C6:=e.C6,DV:=a,CO:=Pw,Fy:=UU,DN:=JD,DC:=[]}).bind λ (x48,TZ,NB,Uz)=>(OA {b with CP:=x48,CQ:=TZ,closed:=f,Dm:=g,CZ:=i,CN:=NB,CR:=Mr,C6:=e.C6,DV:=a,CO:=Uz,Fy:=UU,DN:=JD,DC:=[]}).bind λ (x53,x54,x55,Vv)=>(QM {b with CP:=x53,CQ:=x54,closed:=f,Dm:=g,CZ:=i,CN:=x55,CR:=Mr,C6:=e.C6,DV:=a,CO:=Vv,Fy:=UU,DN:=JD,DC:=[]}).bind λ (x58,x59,x60,x61,x62,x63)=>cond ((x63.length:Int)=(UU.length:Int)) (some (.inr (x60,x61,x62,x63,Mr,x58,x59))) (some (.inl (x60,x61,x62,x63,Mr,x58,x59)))
def HF(b:Nt)(e:Lm):Option (Lm×Nc×Int):=
 (u_r03_Valid_v b).bind λ f=>cond f ((IL e).bind λ a=>cond e.C6 (some (a,(⟨[],[],[],[],[]⟩:Nc),0)) ((MU {b with CP:=a.CP,CQ:=a.CQ,closed:=a.closed,Dm:=a.Dm,CZ:=a.CZ,CN:=a.CN,CR:=a.CR,C6:=a.C6,DV:=[],CO:=[],Fy:=[],DN:=[],DC:=[]}).bind λ (x7,x8,x9,JJ)=>(MQ {b with CP:=a.CP,CQ:=a.CQ,closed:=x7,Dm:=x8,CZ:=x9,CN:=a.CN,CR:=a.CR,C6:=a.C6,DV:=[],CO:=JJ,Fy:=[],DN:=[],DC:=[]}).bind λ (Jr,Lq,I7,Jp,JD)=>(Jl {b with CP:=Jr,CQ:=Lq,closed:=x7,Dm:=x8,CZ:=x9,CN:=I7,CR:=a.CR,C6:=a.C6,DV:=[],CO:=Jp,Fy:=[],DN:=JD,DC:=[]}).bind λ (RO,OL,Sj,I6)=>(C9 (WQ b a x7 x8 x9 JD) (Sj,[],I6,[],a.CR,RO,OL)).bind (λ (v85,v86,v87,v88,v89,v90,v91)=>(C9 (WR v90 v91) (v85,0)).bind (λ (v109,v110)=>some ((⟨v90,v91,x7,x8,x9,v109,v89,a.C6⟩:Lm),(⟨v86,v87,v88,JD,[]⟩:Nc),0))))) (some ((⟨[],[],[],[],[],[],[],false⟩:Lm),(⟨[],[],[],[],[]⟩:Nc),20))
theorem Mk{b s r}(a:HF b s=some r):
   Rq 47 [.agg b.c,.agg s.c] [] [] (.Em [.agg r.1.c,.agg r.2.1.c,iD r.2.2]):=by
 refine EC func47 Bfr ?_;unfold HF at a;refine Eb a FW λ _ a=>?_;refine cP a λ _ a=>?_;refine Dd [0,0,2,0,1,0] ?_;refine FH a K2 λ k a=>?_;obtain ⟨_,a⟩ | ⟨_,a⟩:=cE a
 . obtain ⟨⟨t,u,v,_⟩,f,a⟩:=bE a;refine A ?_;refine Nl ((Wk.EP (id:=19) (j:=16) (q:=519016) (sz:=5) 178 rfl rfl rfl AV).trans ((Wk.EP (id:=19) (j:=17) (q:=519017) (sz:=4) 242 rfl rfl rfl AV).trans ((Wk.EP (id:=19) (j:=18) (q:=519018) (sz:=2) 205 rfl rfl rfl AV).trans ((Wk.EP (id:=19) (j:=19) (q:=519019) (sz:=1) 3 rfl rfl rfl AV).trans (Wk.EP (id:=19) (j:=20) (q:=519020) (sz:=1) 3 rfl rfl rfl AV))))) ?_;(try simp only[go_sem, *,BR,BT]);refine CcD (Ag3 f) ?_;refine Eb a Afz ?_;rintro ⟨_,_,_,_,JD⟩ a;refine Eb a Y4 ?_;rintro ⟨_,_,_,_⟩ a;obtain ⟨w,g,a⟩:=bE a;refine A ?_;refine E0 g (λ q=>⟨[(4,.ptr 4 0),(5,.ptr 5 0),(7,.ptr 19 0)],[(4,.box [.cl [],.cl [],.cl [],.cl [],.cl [],.cl [],.cl [],bD false]),(5,.box [.cl [],.cl [],.cl [],.cl [],.cl []]),(19,.box [sD (FF b.blocks),sD (Dy b.next),sD (Gy b.CT),sD (CS b.C7),iD b.cq,iD b.ca,iD b.cd,iD b.cp,sD (CS q.2.2.2.2.2.1),sD (Dy q.2.2.2.2.2.2),sD (Dl t),sD (CS u),sD (CS v),rD 10017 q.1,sD (DE q.2.2.2.2.1),bD k.C6,rD 519016 q.2.1,rD 519017 q.2.2.1,rD 519018 q.2.2.2.1,rD 519019 JD,.ref 519020 0 0 0]),(10017,.arr 171 13 (Ec q.1)),(519016,.arr 178 5 (Et q.2.1)),(519017,.arr 242 4 (FC q.2.2.1)),(519018,.arr 205 2 (Ht q.2.2.2.1)),(519019,.arr 3 1 (CS JD)),(519020,.arr 3 1 (CS []))],103⟩) ((Wk.EA (id:=19) (j:=14) (q:=20017) (sz:=5) (e:=229) (es:=DE k.CR) rfl AX rfl).trans Wr) ?_;rintro ⟨y,z,B,UU,Mt,RQ,E⟩ _ Xw Bya;rw[WQ.eq_1] at Xw;refine FI Xw Apj ?_;rintro ⟨_,_,_,Mr,_⟩ Xw;refine FI Xw Al9 ?_;rintro ⟨_,_,_,_⟩ Xw;refine FI Xw Al2 ?_;rintro ⟨_,_,_,_⟩ Xw;refine FI Xw Apr ?_;rintro ⟨l,m,_,n,o,p⟩ Xw;obtain ⟨_,Xw⟩ | ⟨_,Xw⟩:=cK Xw
   . exact AL (Bya _ _ (kI Xw))
   cases kR Xw;obtain ⟨x,i,a⟩:=bE a;refine HV i [4,5,7] [4,5,519016,519017,519018,519019,519020] (λ q=>[(9,iD q.2)]) (λ q=>[(19,.box [sD (FF b.blocks),sD (Dy b.next),sD (Gy b.CT),sD (CS b.C7),iD b.cq,iD b.ca,iD b.cd,iD b.cp,sD (CS l),sD (Dy m),sD (Dl t),sD (CS u),sD (CS v),rD 10017 q.1,sD (DE Mr),bD k.C6,rD 519016 n,rD 519017 o,rD 519018 p,rD 519019 JD,.ref 519020 0 0 0]),(10017,.arr 171 13 (Ec q.1))]) ?_;rintro ⟨H,I⟩ _ Xu Brg;rw[WR.eq_1] at Xu;obtain ⟨_,Xu⟩ | ⟨_,Xu⟩:=cK Xu
   . cases kR Xu;(try dsimp only at a);refine C4 [19] [0,0,0,0,0,0,0,0,2,2,0] ?_;exact zP a
   refine FI Xu LR λ _ Xu=>?_;obtain ⟨_,Xu⟩ | ⟨_,Xu⟩:=cK Xu
   . exact AL (Brg _ _ (kI Xu))
   refine Dd [0,0,0,0,0,0,0,0,0,0,0,0,0,0,0,0,0,0,0,3] ?_;obtain ⟨_,Xu,_⟩:=jK Da Xu;exact AL (Brg _ _ (kI Xu))
 refine C4 [19] [0,0,0,0,0,0,0,0,2,2,0] ?_;exact zP a
def Alb(f:Aa):Aa×Ab×Int->Option ((Aa×Ab×Int)⊕((Aa×Ab×Int)))
 | (b,e,a)=>cond (a<(f.length:Int)) ((CU f a).bind λ g=>(Iu (⟨b,e⟩:KI) g).bind λ (x93,x94)=>some (.inl (x93.CP,x93.CQ,(i64.wrap (a+1))))) (some (.inr (b,e,a)))
def Av7(e:DX)(b:Aa):Ak×Int->Option ((Ak×Int)⊕((Ak×Int)))
 | (a,Aj7)=>cond (Aj7<(b.length:Int)) ((CU b Aj7).bind λ Bw0=>(Hz {e with CO:=a} 20 Bw0 0).bind λ Bvw=>some (.inl (Bvw,(i64.wrap (Aj7+1))))) (some (.inr (a,Aj7)))
def OD(a:DX)(b:Cm4)(e:OM)(i:Aa)(g:KM):Option (Aa×Ab×Ac×Aa×Aa×Ah×Ao×Bool×Ak×Aa×Aa):=
 cond (b.kind=1) ((Hz a 21 e.n 0).bind λ Bvm=>some (a.CP,a.CQ,a.closed,a.Dm,a.CZ,a.CN,a.CR,a.C6,Bvm,a.DN,a.DC)) (cond (b.kind=2) ((Za a b.n 4 22).bind λ (Bm6,Bm5,Bm4,Bm3,Bvn)=>some (Bm6,Bm5,a.closed,a.Dm,a.CZ,Bm4,Bm3,a.C6,Bvn,a.DN,a.DC)) (cond (b.kind=4) ((C9 (Av7 a i) (a.CO,0)).bind (λ (v164,Bqf)=>(HC {a with CO:=v164}).bind λ (Bvv,Bm9,Bvu,Bvt,Bvs,Bvr,Bm8,Bvq,Bvp,Bm7)=>some (Bvv,Bm9,Bvu,Bvt,Bvs,Bvr,Bm8,Bvq,Bvp,a.DN,Bm7))) (cond (b.kind=5) ((CU a.CN e.n).bind λ Bq8=>(Hz a 19 e.n Bq8.Eu).bind λ Bmi=>(HC {a with CO:=Bmi}).bind λ (Bic,Aa3,Bmh,Ar1,Bmg,Bby,Bmf,Af4,Alw,Af3)=>some (Bic,Aa3,Bmh,Ar1,Bmg,Bby,Bmf,Af4,Alw,a.DN,Af3)) (cond (b.kind=6) ((CU a.CN b.n).bind λ HB=>cond (g.state=2) ((LP (⟨a.CP,a.CQ⟩:KI) b.n).bind λ (x53,x54)=>(C9 (Alb x53) (a.CP,a.CQ,0)).bind (λ (v96,v97,v98)=>(CU (a.CN.set b.n.toNat {HB with cell:=(-1)}) b.n).bind λ f=>(Rz {a with CP:=v96,CQ:=v97,CN:=(a.CN.set b.n.toNat {HB with cell:=(-1)}).set b.n.toNat {f with E9:=(-1)}} b.n).bind λ (Bmj,Af5)=>cond (a.DN.length+1<10000000) ((HC {a with CP:=v96,CQ:=v97,CN:=Bmj,CO:=Af5,DN:=a.DN++[b.n]}).bind λ (Bid,Am0,Sn,Bc1,Alz,WA,Bc0,OQ,Aly,Bbz)=>some (Bid,Am0,Sn,Bc1,Alz,WA,Bc0,OQ,Aly,(a.DN++[b.n]),Bbz)) none)) (cond (g.state=0) ((GR a b.n).bind λ (O3,NC,Yi,R3)=>(Rz {a with CP:=O3,CQ:=NC,CN:=Yi,CO:=R3} b.n).bind λ (Wz,Sl)=>(HC {a with CP:=O3,CQ:=NC,CN:=Wz,CO:=Sl}).bind λ (x42,x43,x44,Mr,Pw,x47,x48,TZ,NB,Uz)=>some (x42,x43,x44,Mr,Pw,x47,x48,TZ,NB,a.DN,Uz)) ((HC a).bind λ (PY,Wu,G8,OP,Nn,ON,T0,O4,OK,LG)=>some (PY,Wu,G8,OP,Nn,ON,T0,O4,OK,a.DN,LG)))) ((HC a).bind λ (x6,x7,x8,x9,JJ,GS,Jr,Lq,I7,Jp)=>some (x6,x7,x8,x9,JJ,GS,Jr,Lq,I7,a.DN,Jp))))))
theorem X6{b i j k l r}(a:OD b i j k l=some r):
   Rq 122 [.ptr 1000000 0,.agg i.c,.agg j.c,sD (CS k),.agg l.c] (DX.h b) (DX.h ({b with CP:=r.1,CQ:=r.2.1,closed:=r.2.2.1,Dm:=r.2.2.2.1,CZ:=r.2.2.2.2.1,CN:=r.2.2.2.2.2.1,CR:=r.2.2.2.2.2.2.1,C6:=r.2.2.2.2.2.2.2.1,CO:=r.2.2.2.2.2.2.2.2.1,DN:=r.2.2.2.2.2.2.2.2.2.1,DC:=r.2.2.2.2.2.2.2.2.2.2})) (.Em []):=by
 refine EC func122 Azq ?_;unfold OD at a;obtain ⟨_,a⟩ | ⟨_,a⟩:=cE a
 . obtain ⟨_,a⟩ | ⟨_,a⟩:=cE a
   . obtain ⟨_,a⟩ | ⟨_,a⟩:=cE a
     . obtain ⟨_,a⟩ | ⟨_,a⟩:=cE a
       . obtain ⟨_,a⟩ | ⟨_,a⟩:=cE a
         . refine Eb a Jk ?_;rintro ⟨_,_,_,_,_,_,_,_,_,_⟩ a;exact zO a
         refine Dd [0,0,0,0,0,0,0,0,0] ?_;obtain ⟨_,a,_⟩:=jE Da a;obtain ⟨_,a⟩ | ⟨_,a⟩:=cE a
         . obtain ⟨_,a⟩ | ⟨_,a⟩:=cE a
           . refine Eb a Jk ?_;rintro ⟨_,_,_,_,_,_,_,_,_,_⟩ a;exact zO a
           refine Eb a HU ?_;rintro ⟨_,_,_,_⟩ a;refine Eb a Y7 ?_;rintro ⟨_,_⟩ a;refine Eb a Jk ?_;rintro ⟨_,_,_,_,_,_,_,_,_,_⟩ a;exact zO a
         refine Dd [0,0,0,0,0,0,0,2,0,0,0,0,0] ?_;refine FH a WZ ?_;rintro ⟨_,_⟩ a;obtain ⟨o,g,a⟩:=bE a;refine HV g [0,6,11,12] [6] (λ q=>[(14,iD q.2.2)]) (λ q=>DX.h ({b with CP:=q.1,CQ:=q.2.1})) ?_;rintro ⟨p,s,t⟩ _ Afs By8;rw[Alb.eq_1] at Afs;obtain ⟨_,Afs⟩ | ⟨_,Afs⟩:=cK Afs
         . cases kR Afs;obtain ⟨_,a,_,f,_⟩:=jE Da a;have _:=sl f;refine Eb a Y7 ?_;rintro ⟨_,_⟩ a;refine C4 [6,1000000] [0,0,0,0,0,0,0,0,1,2,0,0,0,3] ?_;obtain ⟨e,a⟩:=gE a;refine G7 e ?_;refine Eb a Jk ?_;rintro ⟨_,_,_,_,_,_,_,_,_,_⟩ a;exact zO a
         refine C4 [1000000] [0,0,0,0,0,0,0,0,0,0,2,0,0,0,0,0,0,4] ?_;obtain ⟨_,Afs,_⟩:=jK Dk Afs;refine Sh Afs NY ?_;rintro ⟨_,_⟩ Afs;exact AL (By8 _ _ (kI Afs))
       refine Dd [0,0,0,0,0,0,0,0,0,0,0,0,0,3] ?_;obtain ⟨_,a,_⟩:=jE Da a;refine FH a F6 λ _ a=>?_;refine Eb a Jk ?_;rintro ⟨_,_,_,_,_,_,_,_,_,_⟩ a;exact zO a
     obtain ⟨m,Bzu,a⟩:=bE a;refine HV Bzu [0,3] [] (λ q=>[(10,iD q.2)]) (λ q=>DX.h ({b with CO:=q.1})) ?_;rintro ⟨n,Aj7⟩ _ Vm Brk;rw[Av7.eq_1] at Vm;obtain ⟨_,Vm⟩ | ⟨_,Vm⟩:=cK Vm
     . cases kR Vm;refine Eb a Jk ?_;rintro ⟨_,_,_,_,_,_,_,_,_,_⟩ a;exact zO a
     obtain ⟨_,Vm,_⟩:=jK Dk Vm;refine FI Vm F6 λ _ Vm=>?_;exact AL (Brk _ _ (kI Vm))
   refine Eb a Aej ?_;rintro ⟨_,_,_,_,_⟩ a;exact zO a
 refine Eb a F6 λ _ a=>?_;exact zO a
def SD(b:Nt)(e:Ad):Int->Option ((Int)⊕(Int⊕Int))
 | a=>cond (a<(b.blocks.length:Int)) ((CU b.blocks a).bind λ f=>cond (f.name=e) (some (.inr (.inr ((a:Int))))) (some (.inl (i64.wrap (a+1))))) (some (.inr (.inl a)))
def G0(b:Nt)(e:Ad):Option (Int):=
 (C9 (SD b e) 0).bind (λ | .inl FP=>some (-1) | .inr (a)=>some a)
theorem M5{e f r}(a:G0 e f=some r):
   Rq 176 [.agg e.c,.p (.str f)] [] [] (iD r):=by
 refine EC func176 Ayf ?_;unfold G0 at a;obtain ⟨i,g,a⟩:=bE a;refine HV g [1,2] [2] (λ q=>[(5,iD q)]) (λ _=>[]) ?_;rintro j _ EJ b;rw[SD.eq_1] at EJ;obtain ⟨_,EJ⟩ | ⟨_,EJ⟩:=cK EJ
 . cases kR EJ;exact zP a
 obtain ⟨_,EJ,_⟩:=jK Av2 EJ;obtain ⟨_,EJ⟩ | ⟨_,EJ⟩:=cK EJ
 . exact AL (b _ _ (kI EJ))
 cases kR EJ;exact zP a
def C1(a:Int):Option (OM):=
 some (⟨a,0⟩:OM)
theorem Df{a r}(b:C1 a=some r):
   Rq 165 [iD a] [] [] (.agg r.c):=by
 refine EC func165 Ayq ?_;unfold C1 at b;exact zP b
def P3(f:Nt)(i:Ac)(j:Aa)(b:Aa)(n:Ao)(k:Ah)(l:Cm4):Option (OM×Aa):=
 (G0 f l.a).bind λ e=>cond (e<0) ((C1 3).bind λ G8=>some (G8,b)) ((EV (⟨i,j,b⟩:Mc)).bind λ g=>(CU g e).bind λ m=>cond m ((C1 6).bind λ PY=>some (PY,b)) ((Ft k).bind λ (GS,Jr,Lq)=>(K8 f g e Jr).bind λ Jp=>cond Jp (cond (b.length+1<10000000) ((C1 1).bind λ I6=>some (I6,(b++[e]))) none) ((C1 5).bind λ RO=>some (RO,b))))
theorem Amg{m f g i b e n r}(a:P3 m f g i b e n=some r):
   Rq 168 [.agg m.c,.ptr 1000000 0,.agg n.c] [(1000000,.box [sD (Dl f),sD (CS g),rD 1000001 i,rD 1000002 b,rD 1000003 e]),(1000001,.arr 3 1 (CS i)),(1000002,.arr 229 5 (DE b)),(1000003,.arr 171 13 (Ec e))] [(1000000,.box [sD (Dl f),sD (CS g),rD 1000001 r.2,rD 1000002 b,rD 1000003 e]),(1000001,.arr 3 1 (CS r.2)),(1000002,.arr 229 5 (DE b)),(1000003,.arr 171 13 (Ec e))] (.agg r.1.c):=by
 refine EC func168 Ayn ?_;unfold P3 at a;refine Eb a M5 λ _ a=>?_;obtain ⟨_,a⟩ | ⟨_,a⟩:=cE a
 . obtain ⟨_,o,a⟩:=bE a;refine A ?_;refine Avj rfl rfl (FG o) A3 ?_;rintro p r ⟨rfl,rfl⟩;refine ⟨_,_,_,rfl,Y1 _,rfl,?_⟩;obtain ⟨_,a,_⟩:=jE DZ a;obtain ⟨_,a⟩ | ⟨_,a⟩:=cE a
   . obtain ⟨⟨_,_,_⟩,k,a⟩:=bE a;refine A ?_;refine CcB (HM k) ?_;obtain ⟨_,l,a⟩:=bE a;refine A ?_;refine CcB (Abl l) ?_;obtain ⟨_,a⟩ | ⟨_,a⟩:=cE a
     . refine Eb a Df λ _ a=>?_;exact zO a
     obtain ⟨j,a⟩:=gE a;refine G7 j ?_;refine Eb a Df λ _ a=>?_;exact zO a
   refine Eb a Df λ _ a=>?_;exact zO a
 refine Eb a Df λ _ a=>?_;exact zO a
def U3(b:Nt)(e:Ad):Int->Option ((Int)⊕(Int⊕Int))
 | a=>cond (a<(b.CT.length:Int)) ((CU b.CT a).bind λ f=>cond (f.name=e) (some (.inr (.inr ((a:Int))))) (some (.inl (i64.wrap (a+1))))) (some (.inr (.inl a)))
def FL(b:Nt)(e:Ad):Option (Int):=
 (C9 (U3 b e) 0).bind (λ | .inl FP=>some (-1) | .inr (a)=>some a)
theorem KZ{e f r}(a:FL e f=some r):
   Rq 177 [.agg e.c,.p (.str f)] [] [] (iD r):=by
 refine EC func177 Aye ?_;unfold FL at a;obtain ⟨i,g,a⟩:=bE a;refine HV g [1,2] [2] (λ q=>[(5,iD q)]) (λ _=>[]) ?_;rintro j _ EJ b;rw[U3.eq_1] at EJ;obtain ⟨_,EJ⟩ | ⟨_,EJ⟩:=cK EJ
 . cases kR EJ;exact zP a
 obtain ⟨_,EJ,_⟩:=jK Ew EJ;obtain ⟨_,EJ⟩ | ⟨_,EJ⟩:=cK EJ
 . exact AL (b _ _ (kI EJ))
 cases kR EJ;exact zP a
def Sr(f:Nt)(e:Int):Aa×Int->Option ((Aa×Int)⊕((Aa×Int)))
 | (b,a)=>cond (0<=e) ((CU f.CT e).bind λ JD=>cond (a<JD.Eg) (cond (b.length+1<10000000) (some (.inl ((b++[(i64.wrap (JD.base+a))]),(i64.wrap (a+1))))) none) (some (.inr (b,a)))) (some (.inr (b,a)))
def E4(a:Nt)(b:Ad):Option Aa:=
 (G0 a b).bind λ e=>cond (0<=e) (some [e]) ((FL a b).bind λ f=>(C9 (Sr a f) ([],0)).bind (λ (Mu,O6)=>some Mu))
theorem Iz{b g r}(a:E4 b g=some r):
   Rq 123 [.agg b.c,.p (.str g)] [] [] (sD (CS r)):=by
 refine EC func123 Azp ?_;unfold E4 at a;refine Eb a M5 λ _ a=>?_;obtain ⟨_,a⟩ | ⟨_,a⟩:=cE a
 . refine Eb a KZ λ j a=>?_;obtain ⟨i,f,a⟩:=bE a;refine A ?_;refine E0 f (λ q=>⟨[(2,.ptr 2 0),(6,iD j),(7,rD 43 q.1),(8,iD q.2)],[(2,.box b.c),(43,.arr 3 1 (CS q.1))],45⟩) ((Wk.nil (t:=7) (q:=43) (sz:=1) 3 rfl rfl AV).trans Wr) ?_;rintro ⟨k,l⟩ _ Fs Anu;rw[Sr.eq_1] at Fs;obtain ⟨_,Fs⟩ | ⟨_,Fs⟩:=cK Fs
   . cases kR Fs;exact zP a
   obtain ⟨_,Fs,_⟩:=jK Ew Fs;obtain ⟨_,Fs⟩ | ⟨_,Fs⟩:=cK Fs
   . cases kR Fs;(try dsimp only at a);refine A ?_;exact zP a
   obtain ⟨e,Fs⟩:=gK Fs;refine G7 e ?_;exact AL (Anu _ _ (kI Fs))
 exact zP a
def Abd(a:Aa):Ac×Aa×Aa×Int->Option ((Ac×Aa×Aa×Int)⊕((Ac×Aa×Aa×Int)))
 | (Ii,Jq,OR,MZ)=>cond (MZ<(a.length:Int)) ((CU a MZ).bind λ Pw=>(NV (⟨Ii,Jq,OR⟩:Mc) Pw).bind λ NB=>some (.inl (NB.closed,NB.Dm,NB.CZ,(i64.wrap (MZ+1))))) (some (.inr (Ii,Jq,OR,MZ)))
def Abc(j:Ac)(k:Aa)(n:Aa)(l:Ah)(m:Aa):Int->Option ((Int)⊕(Int⊕(OM×Ac×Aa×Aa)))
 | a=>cond (a<(m.length:Int)) ((CU m a).bind λ e=>(CU k e).bind λ b=>(CU j e).bind λ f=>cond f (cond (0<=b) (cond (b<(l.length:Int)) ((CU l b).bind λ g=>cond (g.state=2) ((C1 10).bind λ i=>some (.inr (.inr (((i,j,k,n):OM×Ac×Aa×Aa))))) (some (.inl (i64.wrap (a+1))))) (some (.inl (i64.wrap (a+1))))) (some (.inl (i64.wrap (a+1))))) (some (.inl (i64.wrap (a+1))))) (some (.inr (.inl a)))
def P5(g:Nt)(b:Ac)(e:Aa)(f:Aa)(m:Ao)(j:Ah)(k:Cm4):Option (OM×Ac×Aa×Aa):=
 (E4 g k.a).bind λ i=>cond ((i.length:Int)=0) ((C1 3).bind λ Alu=>some (Alu,b,e,f)) ((C9 (Abc b e f j i) 0).bind (λ | .inl l=>(C9 (Abd i) (b,e,f,0)).bind (λ (v139,Aj7,v141,v142)=>(Ft j).bind λ (Avq,Avp,Ar0)=>(EV (⟨b,e,f⟩:Mc)).bind λ Bbv=>(GX g Bbv Avp).bind λ Alv=>cond Alv ((EV (⟨v139,Aj7,v141⟩:Mc)).bind λ Bmb=>(GX g Bmb Avp).bind λ Aqy=>cond Aqy ((C1 1).bind λ Bvx=>some (Bvx,v139,Aj7,v141)) ((C1 5).bind λ Bvz=>some (Bvz,b,e,f))) ((C1 1).bind λ Bmc=>some (Bmc,v139,Aj7,v141))) | .inr (Bxz)=>some Bxz))
theorem Amh{m n o p e f s r}(a:P5 m n o p e f s=some r):
   Rq 169 [.agg m.c,.ptr 1000000 0,.agg s.c] [(1000000,.box [sD (Dl n),sD (CS o),sD (CS p),rD 1000001 e,rD 1000002 f]),(1000001,.arr 229 5 (DE e)),(1000002,.arr 171 13 (Ec f))] [(1000000,.box [sD (Dl r.2.1),sD (CS r.2.2.1),sD (CS r.2.2.2),rD 1000001 e,rD 1000002 f]),(1000001,.arr 229 5 (DE e)),(1000002,.arr 171 13 (Ec f))] (.agg r.1.c):=by
 refine EC func169 Aym ?_;unfold P5 at a;refine Eb a Iz λ _ a=>?_;obtain ⟨_,a⟩ | ⟨_,a⟩:=cE a
 . obtain ⟨u,g,a⟩:=bE a;refine HV g [1,3,6,7,8] [3,6,8,1000000,1000001,1000002] (λ q=>[(9,iD q)]) (λ _=>[]) ?_;rintro v _ Hr b;rw[Abc.eq_1] at Hr;obtain ⟨_,Hr⟩ | ⟨_,Hr⟩:=cK Hr
   . cases kR Hr;obtain ⟨t,i,a⟩:=bE a;refine HV i [1,3,6,7,8] [3,6,1000000,1000001,1000002] (λ q=>[(11,iD q.2.2.2)]) (λ q=>[(8,.box [sD (Dl q.1),sD (CS q.2.1),sD (CS q.2.2.1)])]) ?_;rintro ⟨Ii,Jq,OR,MZ⟩ _ JO Bje;rw[Abd.eq_1] at JO;obtain ⟨_,JO⟩ | ⟨_,JO⟩:=cK JO
     . cases kR JO;obtain ⟨⟨_,_,_⟩,j,a⟩:=bE a;refine A ?_;refine CcB (HM j) ?_;refine Hs [0,10,20,30,40,60,52,72,80,90,100,120,112,132,140,150] ?_;refine FH a FG λ _ a=>?_;obtain ⟨_,k,a⟩:=bE a;refine A ?_;refine GhB (Jd k) ?_;obtain ⟨_,a⟩ | ⟨_,a⟩:=cE a
       . refine Eb a Df λ _ a=>?_;exact zO a
       refine FH a FG λ _ a=>?_;obtain ⟨_,l,a⟩:=bE a;refine A ?_;refine GhB (Jd l) ?_;obtain ⟨_,a⟩ | ⟨_,a⟩:=cE a
       . refine Eb a Df λ _ a=>?_;exact zO a
       refine Eb a Df λ _ a=>?_;exact zO a
     refine Dd [0,0,0,0,0,3,3] ?_;obtain ⟨_,JO,_⟩:=jK Dk JO;refine Sh JO Ajg λ _ JO=>?_;exact AL (Bje _ _ (kI JO))
   refine Dd [0,0,0,0,0,0,0,0,0] ?_;obtain ⟨_,Hr,_⟩:=jK Dk Hr;obtain ⟨_,Hr,_⟩:=jK Dk Hr;refine Dd [0,0,0,0,0,0,0,0,0,0,0,0,0,0,0,0,0,0,0,0,0,0,0,0,0,0,0,0,0,0,0,0] ?_;obtain ⟨_,Hr,_⟩:=jK DZ Hr;obtain ⟨_,Hr⟩ | ⟨_,Hr⟩:=cK Hr
   . exact AL (b _ _ (kI Hr))
   obtain ⟨_,Hr⟩ | ⟨_,Hr⟩:=cK Hr
   . exact AL (b _ _ (kI Hr))
   obtain ⟨_,Hr⟩ | ⟨_,Hr⟩:=cK Hr
   . exact AL (b _ _ (kI Hr))
   obtain ⟨_,Hr,_⟩:=jK Da Hr;obtain ⟨_,Hr⟩ | ⟨_,Hr⟩:=cK Hr
   . exact AL (b _ _ (kI Hr))
   refine FI Hr Df λ _ Hr=>?_;cases kR Hr;exact zO a
 refine Eb a Df λ _ a=>?_;exact zO a
def SK(g:Ac)(i:Aa)(j:Aa)(a:Ao)(k:Ah)(b:Cm4):Option (OM×Ao):=
 cond (b.n<0) ((C1 3).bind λ I7=>some (I7,a)) (cond ((a.length:Int)<=b.n) ((C1 3).bind λ Jr=>some (Jr,a)) ((CU a b.n).bind λ e=>cond (3<=e.state) ((C1 11).bind λ JJ=>some (JJ,a)) ((C1 1).bind λ f=>some (f,(a.set b.n.toNat {e with state:=4})))))
def Su(e:Ao):Int×Int->Option ((Int×Int)⊕((Int×Int)))
 | (b,a)=>cond (a<(e.length:Int)) ((CU e a).bind λ GS=>cond (GS.state=0) (some (.inl ((i64.wrap (b+1)),(i64.wrap (a+1))))) (some (.inl (b,(i64.wrap (a+1)))))) (some (.inr (b,a)))
def HL(a:Ao):Option (Int):=
 (C9 (Su a) (0,0)).bind (λ (Ii,Jq)=>some Ii)
theorem RS{b r}(a:HL b=some r):
   Rq 173 [sD (DE b)] [] [] (iD r):=by
 refine EC func173 Ayi ?_;unfold HL at a;obtain ⟨f,e,a⟩:=bE a;refine HV e [0] [] (λ q=>[(3,iD q.1),(4,iD q.2)]) (λ _=>[]) ?_;rintro ⟨g,i⟩ _ EO YN;rw[Su.eq_1] at EO;obtain ⟨_,EO⟩ | ⟨_,EO⟩:=cK EO
 . cases kR EO;exact zP a
 obtain ⟨_,EO,_⟩:=jK EF EO;obtain ⟨_,EO⟩ | ⟨_,EO⟩:=cK EO
 . exact AL (YN _ _ (kI EO))
 exact AL (YN _ _ (kI EO))
def YA(f:Nt)(m:Ac)(n:Aa)(o:Aa)(e:Ao)(q:Ah)(j:Cm4):Option (OM×Ao):=
 cond (j.a=j.b) ((C1 0).bind λ l=>some (l,e)) ((FL f j.a).bind λ g=>(FL f j.b).bind λ i=>cond (g<0) ((C1 3).bind λ Mr=>some (Mr,e)) (cond (i<0) ((C1 3).bind λ k=>some (k,e)) ((CU f.CT g).bind λ p=>cond p.Fq ((C1 3).bind λ KO=>some (KO,e)) ((CU f.CT i).bind λ Lq=>cond Lq.Fq ((C1 3).bind λ Wz=>some (Wz,e)) ((EV (⟨m,n,o⟩:Mc)).bind λ RO=>(FJ f RO g).bind λ Sj=>cond Sj ((FJ f RO i).bind λ G8=>cond G8 ((HL e).bind λ O4=>cond (f.cq<=O4) ((C1 2).bind λ R3=>some (R3,e)) (cond ((e.length:Int)=32) ((C1 2).bind λ NC=>some (NC,e)) (cond (e.length+1<10000000) (some ((⟨1,(i64.wrap ((((e++[(⟨g,i,0,(-1),0⟩:Tsk)]).length:Nat):Int) - 1))⟩:OM),(e++[(⟨g,i,0,(-1),0⟩:Tsk)]))) none))) ((C1 4).bind λ ON=>some (ON,e))) ((C1 4).bind λ PY=>some (PY,e)))))))
def SJ(f:Ac)(g:Aa)(i:Aa)(j:Ao)(a:Ah)(b:Cm4):Option (OM×Ah):=
 cond (b.n<0) ((C1 3).bind λ Nn=>some (Nn,a)) (cond ((a.length:Int)<=b.n) ((C1 3).bind λ G8=>some (G8,a)) ((CU a b.n).bind λ e=>cond (e.state=3) ((C1 3).bind λ PY=>some (PY,a)) (cond (e.state=2) ((C1 1).bind λ I6=>some (I6,a)) (cond e.E7 ((C1 1).bind λ OL=>some (OL,a)) ((Ft a).bind λ (JJ,GS,Jr)=>cond (Jr=1) ((C1 9).bind λ HB=>some (HB,a)) ((C1 1).bind λ Jp=>some (Jp,(a.set b.n.toNat {e with E7:=true}))))))))
def VA(e:Nt)(f:Ac)(l:Aa)(g:Aa)(m:Ao)(n:Ah)(i:Cm4):Option (OM):=
 (G0 e i.a).bind λ b=>cond (b<0) ((C1 3).bind λ I7=>some I7) ((CU f b).bind λ j=>cond j (some (⟨12,2⟩:OM)) ((HE g b).bind λ k=>cond k (some (⟨12,1⟩:OM)) ((C1 12).bind λ Jr=>some Jr)))
def T4(e:Int):Aa×Int->Option ((Aa×Int)⊕((Aa×Int)))
 | (b,a)=>cond (a<e) ((CU b a).bind λ I7=>some (.inl ((b.set a.toNat (-1)),(i64.wrap (a+1))))) (some (.inr (b,a)))
def SP(a:Int):Option (KI×Int):=
 cond (a<0) (some ((⟨[],[]⟩:KI),19)) (cond (48<a) (some ((⟨[],[]⟩:KI),19)) (cond ((0<=a)&&decide (a.toNat<10000000)) ((C9 (T4 a) ((List.replicate a.toNat 0),0)).bind (λ (OR,MZ)=>some ((⟨OR,(List.replicate a.toNat ([]:Aa))⟩:KI),0))) none))
theorem Amk(a0)(r)(a:SP a0=some r)(i:r.2=0):
   C3 prog 70 [iD a0] [] λ h d=>h=[(0,.arr 3 1 (CS r.1.CP)),(1,.arr 23 1 (Dy r.1.CQ))]/\d= .Em [.agg [rD 0 r.1.CP,rD 1 r.1.CQ],iD r.2]:=by
 refine Dx func70 rfl Bfc (by simp[Tryz.f70]) ?_;unfold SP at a;obtain ⟨j,a⟩ | ⟨j,a⟩:=cE a
 . obtain ⟨k,a⟩ | ⟨k,a⟩:=cE a
   . refine Hs [0,20,11,31,40,51,63] ?_;obtain ⟨g,a⟩:=gE a;refine A ?_;refine ⟨by simp only[Bz,BI] at g;omega,?_⟩;refine A ?_;refine ⟨by simp only[Bz,BI] at g;omega,?_⟩;obtain ⟨l,e,a⟩:=bE a;(try simp only[go_sem, *,Bgj]);refine XP e [0,2,4] [2,16] (λ q=>[(5,iD q.2)]) (λ q=>[(4,.box [rD 14 q.1,.ref 16 0 ((List.replicate (Int.toNat a0) ([]:Aa)).length) ((List.replicate (Int.toNat a0) ([]:Aa)).length)]),(14,.arr 3 1 (CS q.1))]) ?_;rintro ⟨s,t⟩ p Fv f;rw[T4.eq_1] at Fv;obtain ⟨b,Fv⟩ | ⟨b,Fv⟩:=cK Fv
     . cases kR Fv;exact zO a
     obtain ⟨I7,Fv,o,m,n⟩:=jK Dk Fv;exact AL (f _ _ (kI Fv))
   cases a;first | exact absurd i AV | (exfalso;simp_all;done)
 cases a;first | exact absurd i AV | (exfalso;simp_all;done)
def Np:Lp (Aa×Int) (Aa×Int)
 | (a,JR)=>cond (JR<(a.length:Int)) ((CU a JR).bind λ Sj=>some (.inl ((a.set JR.toNat (-1)),(i64.wrap (JR+1))))) (some (.inr (a,JR)))
def Mw(a:Nt):Option (Mc×Int):=
 (u_r03_Valid_v a).bind λ f=>cond f ((Fg a).bind λ b=>cond ((0<=b)&&decide (b.toNat<10000000)) ((Fg a).bind λ e=>cond ((0<=e)&&decide (e.toNat<10000000)) ((C9 Np ((List.replicate e.toNat 0),0)).bind (λ (v24,Ls)=>some ((⟨(List.replicate b.toNat false),v24,[]⟩:Mc),0))) none) none) (some ((⟨[],[],[]⟩:Mc),20))
theorem Afa{e r}(a:Mw e=some r):
   Rq 69 [.agg e.c] [] [] (.Em [.agg r.1.c,iD r.2]):=by
 refine EC func69 Bfd ?_;unfold Mw at a;refine Eb a FW λ _ a=>?_;refine cP a λ _ a=>?_;refine Hs [0,30,71,12,21,42,51,60,83] ?_;refine FH a ID λ f a=>?_;obtain ⟨g,a⟩:=gE a;refine A ?_;refine ⟨by simp only[Bz,BI] at g;omega,?_⟩;try simp only[go_sem, *,GN]
 refine FH a ID λ _ a=>?_;obtain ⟨i,a⟩:=gE a;refine A ?_;refine ⟨by simp only[Bz,BI] at i;omega,?_⟩;obtain ⟨j,b,a⟩:=bE a;refine HV b [2,4] [2,12] (λ q=>[(5,iD q.2)]) (λ q=>[(4,.box [.ref 12 0 ((List.replicate (Int.toNat f) false).length) ((List.replicate (Int.toNat f) false).length),rD 15 q.1,.cl []]),(15,.arr 3 1 (CS q.1))]) ?_;rintro ⟨k,JR⟩ _ FD Afp;rw[Np.eq_1] at FD;obtain ⟨_,FD⟩ | ⟨_,FD⟩:=cK FD
 . cases kR FD;exact zP a
 obtain ⟨_,FD,_⟩:=jK Dk FD;exact AL (Afp _ _ (kI FD))
def IV(p:List Blk)(q:Ab)(r:List Sf)(s:Aa)(t:Int)(u:Int)(v:Int)(w:Int)(x:Aa)(y:Ab)(a:Ac)(b:Aa)(e:Aa)(f:Ah)(g:Ao)(i:Bool)(j:Au)(k:Ak)(l:AB)(m:Aa)(n:Aa):Option Ac:=
 (EV (⟨a,b,e⟩:Mc)).bind λ o=>some o
theorem UB{s t u v w x y z o p b e f a g i j k l m n r}(q:IV s t u v w x y z o p b e f a g i j k l m n=some r):
   Rq 115 [.ptr 1000000 0] [(1000000,.box [sD (FF s),sD (Dy t),sD (Gy u),sD (CS v),iD w,iD x,iD y,iD z,rD 1000001 o,rD 1000002 p,sD (Dl b),sD (CS e),sD (CS f),rD 1000003 a,sD (DE g),bD i,sD (Et j),sD (FC k),sD (Ht l),sD (CS m),sD (CS n)]),(1000001,.arr 3 1 (CS o)),(1000002,.arr 23 1 (Dy p)),(1000003,.arr 171 13 (Ec a))] [(1000000,.box [sD (FF s),sD (Dy t),sD (Gy u),sD (CS v),iD w,iD x,iD y,iD z,rD 1000001 o,rD 1000002 p,sD (Dl b),sD (CS e),sD (CS f),rD 1000003 a,sD (DE g),bD i,sD (Et j),sD (FC k),sD (Ht l),sD (CS m),sD (CS n)]),(1000001,.arr 3 1 (CS o)),(1000002,.arr 23 1 (Dy p)),(1000003,.arr 171 13 (Ec a))] (sD (Dl r)):=by
 refine EC func115 Ahv ?_;unfold IV at q;refine Eb q FG λ _ q=>?_;exact zP q
def Ir(o:List Blk)(p:Ab)(q:List Sf)(r:Aa)(s:Int)(t:Int)(u:Int)(v:Int)(w:Aa)(x:Ab)(b:Ac)(e:Aa)(f:Aa)(a:Ah)(g:Ao)(i:Bool)(j:Au)(k:Ak)(l:AB)(m:Aa)(n:Aa):Option (Bool):=
 (Ft a).bind λ (x1,x2,x3)=>(IV o p q r s t u v w x b e f a g i j k l m n).bind λ y=>(GX (⟨o,p,q,r,s,t,u,v⟩:Nt) y x2).bind λ z=>cond z (some (decide (0<x3))) (some false)
theorem Sp{s t u v w x y z p q e f g a i j k l m n o r}(b:Ir s t u v w x y z p q e f g a i j k l m n o=some r):
   Rq 73 [.ptr 1000000 0] [(1000000,.box [sD (FF s),sD (Dy t),sD (Gy u),sD (CS v),iD w,iD x,iD y,iD z,rD 1000001 p,rD 1000002 q,sD (Dl e),sD (CS f),sD (CS g),rD 1000003 a,sD (DE i),bD j,sD (Et k),sD (FC l),sD (Ht m),sD (CS n),sD (CS o)]),(1000001,.arr 3 1 (CS p)),(1000002,.arr 23 1 (Dy q)),(1000003,.arr 171 13 (Ec a))] [(1000000,.box [sD (FF s),sD (Dy t),sD (Gy u),sD (CS v),iD w,iD x,iD y,iD z,rD 1000001 p,rD 1000002 q,sD (Dl e),sD (CS f),sD (CS g),rD 1000003 a,sD (DE i),bD j,sD (Et k),sD (FC l),sD (Ht m),sD (CS n),sD (CS o)]),(1000001,.arr 3 1 (CS p)),(1000002,.arr 23 1 (Dy q)),(1000003,.arr 171 13 (Ec a))] (bD r):=by
 refine EC func73 Aoj ?_;unfold Ir at b;obtain ⟨⟨_,_,_⟩,B,b⟩:=bE b;refine A ?_;refine CcB (HM B) ?_;refine Hs [0,10,20,30,40,60,52,72,80,90,100,110,120] ?_;refine FH b UB λ _ b=>?_;refine FH b Jd λ _ b=>?_;refine cO b λ _ b=>?_;exact zO b
def Agi(a:Nt):Aa×Ah×Int->Option ((Aa×Ah×Int)⊕((Aa×Ah×Int)))
 | (FP,Ho,Ii)=>cond (Ii<(a.C7.length:Int)) ((CU a.C7 Ii).bind λ G8=>(CU FP G8).bind λ T0=>(K1 a G8).bind λ KP=>(K0 a G8).bind λ NC=>cond (Ho.length+1<10000000) (some (.inl ((FP.set G8.toNat Ii),(Ho++[(⟨1,false,KP,G8,(-1),0,false,false,(-1),0,NC,0,0⟩:KM)]),(i64.wrap (Ii+1))))) none) (some (.inr (FP,Ho,Ii)))
def SI(a:Nt):Option (Lm×Int):=
 (Mw a).bind λ (x1,x2)=>cond (x2=0) ((Fg a).bind λ b=>(SP b).bind λ (x7,x8)=>cond (x8=0) ((C9 (Agi a) (x7.CP,[],0)).bind (λ (v38,v39,v40)=>(Ir a.blocks a.next a.CT a.C7 a.cq a.ca a.cd a.cp v38 x7.CQ x1.closed x1.Dm x1.CZ v39 [] false [] [] [] [] []).bind λ KO=>some ((⟨v38,x7.CQ,x1.closed,x1.Dm,x1.CZ,v39,[],!KO⟩:Lm),0))) none) (some ((⟨[],[],[],[],[],[],[],false⟩:Lm),x2))
theorem Ar8{b r}(a:SI b=some r):
   Rq 39 [.agg b.c] [] [] (.Em [.agg r.1.c,iD r.2]):=by
 refine EC func39 Bfz ?_;unfold SI at a;refine Eb a Afa ?_;rintro ⟨k,_⟩ a;refine cP a λ _ a=>?_;refine Eb a ID λ o a=>?_;obtain ⟨⟨l,_⟩,n,a⟩:=bE a;obtain ⟨e,a⟩:=gE a;refine A ?_;refine CcD (Amk o _ n (Bg e)) ?_;obtain ⟨m,g,a⟩:=bE a;refine A ?_;refine E0 g (λ q=>⟨[(1,.ptr 1 0),(2,.ptr 2 0),(6,.ptr 6 0),(7,iD q.2.2)],[(1,.box b.c),(2,.box [.cl [],.cl [],.cl [],.cl [],.cl [],.cl [],.cl [],bD false]),(6,.box [rD 10024 q.1,rD 20024 l.CQ,sD (Dl k.closed),sD (CS k.Dm),sD (CS k.CZ),rD 57 q.2.1,.cl [],bD false]),(57,.arr 171 13 (Ec q.2.1)),(10024,.arr 3 1 (CS q.1)),(20024,.arr 23 1 (Dy l.CQ))],74⟩) ((Wk.EP (id:=6) (j:=5) (q:=57) (sz:=13) 171 rfl rfl rfl AV).trans Wr) ?_;rintro ⟨FP,Ho,Ii⟩ _ GO Awy;rw[Agi.eq_1] at GO;obtain ⟨_,GO⟩ | ⟨_,GO⟩:=cK GO
 . cases kR GO;obtain ⟨_,i,a⟩:=bE a;refine A ?_;refine Nl ((Wk.Aiu (id:=62) (j:=14) (es:=[]) rfl rfl).trans ((Wk.Aiu (id:=62) (j:=16) (es:=[]) rfl rfl).trans ((Wk.Aiu (id:=62) (j:=17) (es:=[]) rfl rfl).trans ((Wk.Aiu (id:=62) (j:=18) (es:=[]) rfl rfl).trans ((Wk.Aiu (id:=62) (j:=19) (es:=[]) rfl rfl).trans (Wk.Aiu (id:=62) (j:=20) (es:=[]) rfl rfl)))))) ?_;(try simp only[go_sem, *,BR,BT]);refine CcD (Sp i) ?_;exact zP a
 obtain ⟨_,GO,_⟩:=jK Dk GO;obtain ⟨_,GO,_⟩:=jK Dk GO;refine Ex [1,6] [0,10,20,30,50,60,70,42,82,90,101,112,120,133] ?_;refine Sh GO NQ λ _ GO=>?_;refine Sh GO NP λ _ GO=>?_;obtain ⟨f,GO⟩:=gK GO;refine G7 f ?_;exact AL (Awy _ _ (kI GO))
structure Bkw where (Bsj:Int) (Btd:Aa) (Eg:Int) (cap:Int)
def P1(f:Ab)(g:Int)(e:Aa):Int×Int->Option ((Int×Int)⊕((Int×Int)))
 | (b,a)=>(CU f g).bind λ HB=>cond (a<(HB.length:Int)) ((CU HB a).bind λ OK=>(CU e OK).bind λ NC=>cond (0<=NC) (cond (b<0) (some (.inl (OK,(i64.wrap (a+1))))) ((CU e b).bind λ KO=>cond (NC<KO) (some (.inl (OK,(i64.wrap (a+1))))) (some (.inl (b,(i64.wrap (a+1))))))) (some (.inl (b,(i64.wrap (a+1)))))) (some (.inr (b,a)))
def IC(b:Ab)(e:Ac)(a:Int):Option Aa:=
 (CU e a).bind λ f=>cond f (some []) ((Gt b e a).bind λ g=>(C9 (P1 b a g) ((-1),0)).bind (λ (v46,v47)=>cond (v46<0) (some []) ((Gr b e v46 a).bind λ TZ=>cond (TZ≠[]) (cond (0<=(i64.wrap ((TZ.length:Int) - 1))/\(i64.wrap ((TZ.length:Int) - 1))<=(TZ.length:Int)) (cond ([a].length+(TZ.take (Int.toNat (i64.wrap ((TZ.length:Int) - 1)))).length<10000000) (some ([a]++(TZ.take (Int.toNat (i64.wrap ((TZ.length:Int) - 1)))))) none) none) none)))
theorem WJ{b e f r}(a:IC b e f=some r):
   Rq 67 [sD (Dy b),sD (Dl e),iD f] [] [] (sD (CS r)):=by
 refine EC func67 Aol ?_;unfold IC at a;obtain ⟨_,a,_⟩:=jE DZ a;obtain ⟨n,a⟩ | ⟨n,a⟩:=cE a
 . refine Eb a Ja λ _ a=>?_;obtain ⟨o,k,a⟩:=bE a;refine HV k [0,1,2,7] [] (λ q=>[(8,iD q.1),(9,iD q.2)]) (λ _=>[]) ?_;rintro ⟨m,p⟩ _ FN Ash;rw[P1.eq_1] at FN;obtain ⟨_,FN,_⟩:=jK I1 FN;obtain ⟨_,FN⟩ | ⟨_,FN⟩:=cK FN
   . cases kR FN;(try dsimp only at a);refine A ?_;obtain ⟨_,a⟩ | ⟨_,a⟩:=cE a
     . obtain ⟨PY,l,a⟩:=bE a;obtain ⟨g,a⟩:=gE a;refine A ?_;refine CcD (P0 b e m f _ l (Bg g)) ?_;obtain ⟨i,a⟩:=gE a;have _:=Bg i;have _:(Int.toNat (i64.wrap (((PY.length:Nat):Int) - 1)))<=PY.length:=AQ;have _:(((i64.wrap (((PY.length:Nat):Int) - 1))) - 0).toNat=(Int.toNat (i64.wrap (((PY.length:Nat):Int) - 1))):=AT;obtain ⟨j,a⟩:=gE a;(try simp only[go_sem, *,Ae1,Y2]);refine An j ?_;cases a;(try simp only[go_sem, *,Ae1,Y2]);all_goals (try refine Ds ?_)
       all_goals (try simp only[go_sem,n,Ae1,Y2])
       all_goals (try (first | rfl | exact ⟨rfl,rfl⟩ | exact Bag _ _ | exact J4 _ | (simp;done)))
     exact zP a
   obtain ⟨_,FN,_⟩:=jK Dk FN;refine Dd [0,0,0,0,0,0,0,0,0,0,0,0,0,0,0,0,0,0,0,0] ?_;obtain ⟨_,FN,_⟩:=jK Dk FN;obtain ⟨_,FN⟩ | ⟨_,FN⟩:=cK FN
   . exact AL (Ash _ _ (kI FN))
   obtain ⟨_,FN⟩ | ⟨_,FN⟩:=cK FN
   . obtain ⟨_,FN,_⟩:=jK Dk FN;obtain ⟨_,FN⟩ | ⟨_,FN⟩:=cK FN
     . exact AL (Ash _ _ (kI FN))
     exact AL (Ash _ _ (kI FN))
   exact AL (Ash _ _ (kI FN))
 exact zP a
def SB(e:Ab)(f:Ac):Aa×Int->Option ((Aa×Int)⊕((Aa×Int)))
 | (b,a)=>cond (a<(e.length:Int)) ((IC e f a).bind λ I7=>cond (0<(I7.length:Int)) (cond ((b.length:Int)=0) (some (.inl (I7,(i64.wrap (a+1))))) (cond ((I7.length:Int)<(b.length:Int)) (some (.inl (I7,(i64.wrap (a+1))))) (some (.inl (b,(i64.wrap (a+1))))))) (some (.inl (b,(i64.wrap (a+1)))))) (some (.inr (b,a)))
def JW(a:Ab)(b:Ac):Option (Int×Aa×Int):=
 (S3 a b).bind λ e=>cond (e=0) ((C9 (SB a b) ([],0)).bind (λ (MZ,v20)=>some ((MZ.length:Int),MZ,0))) (some (0,[],e))
theorem Aab{f g r}(b:JW f g=some r):
   Rq 36 [sD (Dy f),sD (Dl g)] [] [] (.Em [iD r.1,sD (CS r.2.1),iD r.2.2]):=by
 refine EC func36 Aos ?_;unfold JW at b;refine Eb b An6 λ _ b=>?_;refine cP b λ _ b=>?_;obtain ⟨j,i,b⟩:=bE b;refine A ?_;refine E0 i (λ q=>⟨[(0,sD (Dy f)),(1,sD (Dl g)),(8,sD (CS q.1)),(9,iD q.2)],[],46⟩) ((Wk.nil (t:=8) (q:=900008) (sz:=1) 3 rfl rfl AV).trans ((Wk.pure (t:=8) (id:=900008) (sz:=1) (e:=3) (es:=[]) rfl rfl).trans Wr)) ?_;rintro ⟨k,l⟩ _ Fv a;rw[SB.eq_1] at Fv;obtain ⟨_,Fv⟩ | ⟨_,Fv⟩:=cK Fv
 . cases kR Fv;exact zP b
 refine FI Fv WJ λ _ Fv=>?_;obtain ⟨_,Fv⟩ | ⟨_,Fv⟩:=cK Fv
 . exact AL (a _ _ (kI Fv))
 obtain ⟨_,Fv⟩ | ⟨_,Fv⟩:=cK Fv
 . obtain ⟨_,Fv⟩ | ⟨_,Fv⟩:=cK Fv
   . exact AL (a _ _ (kI Fv))
   exact AL (a _ _ (kI Fv))
 exact AL (a _ _ (kI Fv))
def LU(a:Nt):Option (Bkw×Int):=
 (u_r03_Valid_v a).bind λ e=>cond e (cond (a.blocks.length<10000000) ((JW a.next (List.replicate a.blocks.length false)).bind λ (x5,x6,x7)=>(Fg a).bind λ b=>cond ((0<=b)&&decide (b.toNat<10000000)) ((IJ a (List.replicate b.toNat false)).bind λ Jr=>cond (0<x5) (some ((⟨x5,x6,Jr,(if Jr<(i64.wrap (x5 - 1)) then Jr else (i64.wrap (x5 - 1)))⟩:Bkw),0)) (some ((⟨x5,x6,Jr,Jr⟩:Bkw),0))) none) none) (some ((⟨0,[],0,0⟩:Bkw),20))
theorem Ajo{f r}(a:LU f=some r):
   Rq 17 [.agg f.c] [] [] (.Em [.agg [iD r.1.Bsj,sD (CS r.1.Btd),iD r.1.Eg,iD r.1.cap],iD r.2]):=by
 refine EC func17 Aow ?_;unfold LU at a;refine Eb a FW λ _ a=>?_;refine cP a λ _ a=>?_;refine Dd [0,0,0,0,0,1,2,0,0,0,0,0,0,0] ?_;obtain ⟨g,a⟩:=gE a;refine G7 g ?_;try simp only[go_sem, *,GN]
 refine FH a Aab ?_;rintro ⟨_,_,_⟩ a;refine Hs [0,10,20,30,81,42,51,62,70,93] ?_;refine FH a ID λ _ a=>?_;obtain ⟨b,a⟩:=gE a;refine A ?_;refine ⟨by simp only[Bz,BI] at b;omega,?_⟩;obtain ⟨_,e,a⟩:=bE a;try simp only[go_sem, *,GN]
 refine GhB (RU e) ?_;refine cP a λ _ a=>?_;exact zP a
def Abe(f:Nt)(g:Ac)(i:Aa)(j:Aa)(n:Ao)(b:Ah)(k:Cm4):Option (OM×Ah):=
 (FL f k.a).bind λ e=>cond (e<0) ((C1 3).bind λ O3=>some (O3,b)) ((CU f.CT e).bind λ l=>cond l.Fq ((LU f).bind λ (GS,Jr)=>(Ft b).bind λ (I7,Jp,JD)=>cond (GS.cap<=I7) ((C1 7).bind λ LG=>some (LG,b)) (cond ((b.length:Int)=8) ((C1 7).bind λ O4=>some (O4,b)) ((EV (⟨g,i,j⟩:Mc)).bind λ Sj=>(Kf b).bind λ Fo=>(Im f Sj Fo e).bind λ Wu=>cond (Wu=0) ((C1 8).bind λ ON=>some (ON,b)) (cond (b.length+1<10000000) (some ((⟨1,(i64.wrap ((((b++[(⟨0,false,e,0,0,0,false,false,0,0,[],0,0⟩:KM)]).length:Nat):Int) - 1))⟩:OM),(b++[(⟨0,false,e,0,0,0,false,false,0,0,[],0,0⟩:KM)]))) none)))) ((C1 3).bind λ m=>some (m,b)))
def Mf(e:Nt)(f:Ac)(l:Aa)(g:Aa)(m:Ao)(n:Ah)(i:Cm4):Option (OM):=
 (G0 e i.a).bind λ b=>cond (b<0) ((C1 3).bind λ I7=>some I7) ((CU f b).bind λ j=>cond j (some (⟨12,2⟩:OM)) ((HE g b).bind λ k=>cond k (some (⟨12,1⟩:OM)) ((C1 12).bind λ Jr=>some Jr)))
theorem Aa4{k g i b e f l r}(a:Mf k g i b e f l=some r):
   Rq 172 [.agg k.c,.ptr 1000000 0,.agg l.c] [(1000000,.box [sD (Dl g),sD (CS i),rD 1000001 b,rD 1000002 e,rD 1000003 f]),(1000001,.arr 3 1 (CS b)),(1000002,.arr 229 5 (DE e)),(1000003,.arr 171 13 (Ec f))] [(1000000,.box [sD (Dl g),sD (CS i),rD 1000001 b,rD 1000002 e,rD 1000003 f]),(1000001,.arr 3 1 (CS b)),(1000002,.arr 229 5 (DE e)),(1000003,.arr 171 13 (Ec f))] (.agg r.c):=by
 refine EC func172 Ayj ?_;unfold Mf at a;refine Eb a M5 λ _ a=>?_;obtain ⟨_,a⟩ | ⟨_,a⟩:=cE a
 . obtain ⟨_,a,_⟩:=jE DZ a;obtain ⟨_,a⟩ | ⟨_,a⟩:=cE a
   . obtain ⟨_,j,a⟩:=bE a;refine A ?_;refine CcB (Mi j) ?_;obtain ⟨_,a⟩ | ⟨_,a⟩:=cE a
     . refine Eb a Df λ _ a=>?_;exact zO a
     exact zO a
   exact zO a
 refine Eb a Df λ _ a=>?_;exact zO a
def KT(f:Ac)(g:Aa)(i:Aa)(j:Ao)(a:Ah)(b:Cm4):Option (OM×Ah):=
 cond (b.n<0) ((C1 3).bind λ Nn=>some (Nn,a)) (cond ((a.length:Int)<=b.n) ((C1 3).bind λ G8=>some (G8,a)) ((CU a b.n).bind λ e=>cond (e.state=3) ((C1 3).bind λ PY=>some (PY,a)) (cond (e.state=2) ((C1 1).bind λ I6=>some (I6,a)) (cond e.E7 ((C1 1).bind λ OL=>some (OL,a)) ((Ft a).bind λ (JJ,GS,Jr)=>cond (Jr=1) ((C1 9).bind λ HB=>some (HB,a)) ((C1 1).bind λ Jp=>some (Jp,(a.set b.n.toNat {e with E7:=true}))))))))
theorem Yw{f g b e i k r}(a:KT f g b e i k=some r):
   Rq 171 [.ptr 1000000 0,.agg k.c] [(1000000,.box [sD (Dl f),sD (CS g),rD 1000001 b,rD 1000002 e,rD 1000003 i]),(1000001,.arr 3 1 (CS b)),(1000002,.arr 229 5 (DE e)),(1000003,.arr 171 13 (Ec i))] [(1000000,.box [sD (Dl f),sD (CS g),rD 1000001 b,rD 1000002 e,rD 1000003 r.2]),(1000001,.arr 3 1 (CS b)),(1000002,.arr 229 5 (DE e)),(1000003,.arr 171 13 (Ec r.2))] (.agg r.1.c):=by
 refine EC func171 Ayk ?_;unfold KT at a;refine Dd [0,0,0,0,0,0,0,0,0,0,0,0,0,0,0,0,0,0,0,0,0,0,0,0,0] ?_;obtain ⟨_,a⟩ | ⟨_,a⟩:=cE a
 . obtain ⟨_,a⟩ | ⟨_,a⟩:=cE a
   . obtain ⟨_,a,_⟩:=jE Da a;obtain ⟨_,a⟩ | ⟨_,a⟩:=cE a
     . refine Dd [0,0,0,0,0,0,0,0,1,3] ?_;obtain ⟨_,a⟩ | ⟨_,a⟩:=cE a
       . obtain ⟨_,a⟩ | ⟨_,a⟩:=cE a
         . obtain ⟨⟨_,_,_⟩,j,a⟩:=bE a;refine A ?_;refine CcB (HM j) ?_;obtain ⟨_,a⟩ | ⟨_,a⟩:=cE a
           . refine Dd [0,0,0,0,0,0,0,0,3] ?_;refine Eb a Df λ _ a=>?_;exact zO a
           refine Eb a Df λ _ a=>?_;exact zO a
         refine Eb a Df λ _ a=>?_;exact zO a
       refine Eb a Df λ _ a=>?_;exact zO a
     refine Eb a Df λ _ a=>?_;exact zO a
   refine Eb a Df λ _ a=>?_;exact zO a
 refine Eb a Df λ _ a=>?_;exact zO a
def O8(f:Nt)(g:Ac)(i:Aa)(j:Aa)(n:Ao)(b:Ah)(k:Cm4):Option (OM×Ah):=
 (FL f k.a).bind λ e=>cond (e<0) ((C1 3).bind λ O3=>some (O3,b)) ((CU f.CT e).bind λ l=>cond l.Fq ((LU f).bind λ (GS,Jr)=>(Ft b).bind λ (I7,Jp,JD)=>cond (GS.cap<=I7) ((C1 7).bind λ LG=>some (LG,b)) (cond ((b.length:Int)=8) ((C1 7).bind λ O4=>some (O4,b)) ((EV (⟨g,i,j⟩:Mc)).bind λ Sj=>(Kf b).bind λ Fo=>(Im f Sj Fo e).bind λ Wu=>cond (Wu=0) ((C1 8).bind λ ON=>some (ON,b)) (cond (b.length+1<10000000) (some ((⟨1,(i64.wrap ((((b++[(⟨0,false,e,0,0,0,false,false,0,0,[],0,0⟩:KM)]).length:Nat):Int) - 1))⟩:OM),(b++[(⟨0,false,e,0,0,0,false,false,0,0,[],0,0⟩:KM)]))) none)))) ((C1 3).bind λ m=>some (m,b)))
theorem Af9{o f g b e i p r}(a:O8 o f g b e i p=some r):
   Rq 170 [.agg o.c,.ptr 1000000 0,.agg p.c] [(1000000,.box [sD (Dl f),sD (CS g),rD 1000001 b,rD 1000002 e,rD 1000003 i]),(1000001,.arr 3 1 (CS b)),(1000002,.arr 229 5 (DE e)),(1000003,.arr 171 13 (Ec i))] [(1000000,.box [sD (Dl f),sD (CS g),rD 1000001 b,rD 1000002 e,rD 1000003 r.2]),(1000001,.arr 3 1 (CS b)),(1000002,.arr 229 5 (DE e)),(1000003,.arr 171 13 (Ec r.2))] (.agg r.1.c):=by
 refine EC func170 Ayl ?_;unfold O8 at a;refine Eb a KZ λ _ a=>?_;obtain ⟨_,a⟩ | ⟨_,a⟩:=cE a
 . obtain ⟨_,a,_⟩:=jE Ew a;obtain ⟨_,a⟩ | ⟨_,a⟩:=cE a
   . refine Eb a Df λ _ a=>?_;exact zO a
   refine Eb a Ajo ?_;rintro ⟨_,_⟩ a;obtain ⟨⟨_,_,_⟩,k,a⟩:=bE a;refine A ?_;refine CcB (HM k) ?_;obtain ⟨_,a⟩ | ⟨_,a⟩:=cE a
   . obtain ⟨_,a⟩ | ⟨_,a⟩:=cE a
     . refine Hs [0,10,20,30,40,60,70,80,90,110,52,102,122,130] ?_;obtain ⟨_,l,a⟩:=bE a;refine A ?_;refine Alp rfl rfl (FG l) A3 ?_;rintro q r ⟨rfl,rfl⟩;refine ⟨_,_,_,rfl,Y1 _,rfl,?_⟩;obtain ⟨_,m,a⟩:=bE a;refine A ?_;refine Alp rfl rfl (U4 m) A3 ?_;rintro q r ⟨rfl,rfl⟩;refine ⟨_,_,_,rfl,Ai6 _,rfl,?_⟩;obtain ⟨_,n,a⟩:=bE a;refine A ?_;refine GhB (PD n) ?_;obtain ⟨_,a⟩ | ⟨_,a⟩:=cE a
       . obtain ⟨j,a⟩:=gE a;refine G7 j ?_;exact zO a
       refine Eb a Df λ _ a=>?_;exact zO a
     refine Eb a Df λ _ a=>?_;exact zO a
   refine Eb a Df λ _ a=>?_;exact zO a
 refine Eb a Df λ _ a=>?_;exact zO a
def KU(g:Ac)(i:Aa)(j:Aa)(a:Ao)(k:Ah)(b:Cm4):Option (OM×Ao):=
 cond (b.n<0) ((C1 3).bind λ I7=>some (I7,a)) (cond ((a.length:Int)<=b.n) ((C1 3).bind λ Jr=>some (Jr,a)) ((CU a b.n).bind λ e=>cond (3<=e.state) ((C1 11).bind λ JJ=>some (JJ,a)) ((C1 1).bind λ f=>some (f,(a.set b.n.toNat {e with state:=4})))))
theorem Yx{f g b i e j r}(a:KU f g b i e j=some r):
   Rq 167 [.ptr 1000000 0,.agg j.c] [(1000000,.box [sD (Dl f),sD (CS g),rD 1000001 b,rD 1000002 i,rD 1000003 e]),(1000001,.arr 3 1 (CS b)),(1000002,.arr 229 5 (DE i)),(1000003,.arr 171 13 (Ec e))] [(1000000,.box [sD (Dl f),sD (CS g),rD 1000001 b,rD 1000002 r.2,rD 1000003 e]),(1000001,.arr 3 1 (CS b)),(1000002,.arr 229 5 (DE r.2)),(1000003,.arr 171 13 (Ec e))] (.agg r.1.c):=by
 refine EC func167 Ayo ?_;unfold KU at a;refine Dd [0,0,0,0,0,0,0,0,0,0,0,0,0] ?_;obtain ⟨_,a⟩ | ⟨_,a⟩:=cE a
 . obtain ⟨_,a⟩ | ⟨_,a⟩:=cE a
   . refine Dd [0,0,0,0,0,0,0,0,0,0] ?_;obtain ⟨_,a,_⟩:=jE EF a;obtain ⟨_,a⟩ | ⟨_,a⟩:=cE a
     . refine Dd [0,0,0,0,0,0,0,0,3] ?_;refine Eb a Df λ _ a=>?_;exact zO a
     refine Eb a Df λ _ a=>?_;exact zO a
   refine Eb a Df λ _ a=>?_;exact zO a
 refine Eb a Df λ _ a=>?_;exact zO a
def No(f:Nt)(m:Ac)(n:Aa)(o:Aa)(e:Ao)(q:Ah)(j:Cm4):Option (OM×Ao):=
 cond (j.a=j.b) ((C1 0).bind λ l=>some (l,e)) ((FL f j.a).bind λ g=>(FL f j.b).bind λ i=>cond (g<0) ((C1 3).bind λ Mr=>some (Mr,e)) (cond (i<0) ((C1 3).bind λ k=>some (k,e)) ((CU f.CT g).bind λ p=>cond p.Fq ((C1 3).bind λ KO=>some (KO,e)) ((CU f.CT i).bind λ Lq=>cond Lq.Fq ((C1 3).bind λ Wz=>some (Wz,e)) ((EV (⟨m,n,o⟩:Mc)).bind λ RO=>(FJ f RO g).bind λ Sj=>cond Sj ((FJ f RO i).bind λ G8=>cond G8 ((HL e).bind λ O4=>cond (f.cq<=O4) ((C1 2).bind λ R3=>some (R3,e)) (cond ((e.length:Int)=32) ((C1 2).bind λ NC=>some (NC,e)) (cond (e.length+1<10000000) (some ((⟨1,(i64.wrap ((((e++[(⟨g,i,0,(-1),0⟩:Tsk)]).length:Nat):Int) - 1))⟩:OM),(e++[(⟨g,i,0,(-1),0⟩:Tsk)]))) none))) ((C1 4).bind λ ON=>some (ON,e))) ((C1 4).bind λ PY=>some (PY,e)))))))
theorem Ab7{o f g b i e p r}(a:No o f g b i e p=some r):
   Rq 166 [.agg o.c,.ptr 1000000 0,.agg p.c] [(1000000,.box [sD (Dl f),sD (CS g),rD 1000001 b,rD 1000002 i,rD 1000003 e]),(1000001,.arr 3 1 (CS b)),(1000002,.arr 229 5 (DE i)),(1000003,.arr 171 13 (Ec e))] [(1000000,.box [sD (Dl f),sD (CS g),rD 1000001 b,rD 1000002 r.2,rD 1000003 e]),(1000001,.arr 3 1 (CS b)),(1000002,.arr 229 5 (DE r.2)),(1000003,.arr 171 13 (Ec e))] (.agg r.1.c):=by
 refine EC func166 Ayp ?_;unfold No at a;obtain ⟨_,a⟩ | ⟨_,a⟩:=cE a
 . refine Hs [0,10,20,40,50,60,32,72,80,90] ?_;refine FH a KZ λ _ a=>?_;refine FH a KZ λ _ a=>?_;obtain ⟨_,a⟩ | ⟨_,a⟩:=cE a
   . obtain ⟨_,a⟩ | ⟨_,a⟩:=cE a
     . obtain ⟨_,a,_⟩:=jE Ew a;obtain ⟨_,a⟩ | ⟨_,a⟩:=cE a
       . obtain ⟨_,a,_⟩:=jE Ew a;obtain ⟨_,a⟩ | ⟨_,a⟩:=cE a
         . obtain ⟨_,k,a⟩:=bE a;refine A ?_;refine Avj rfl rfl (FG k) A3 ?_;rintro q r ⟨rfl,rfl⟩;refine ⟨_,_,_,rfl,Y1 _,rfl,?_⟩;obtain ⟨_,l,a⟩:=bE a;refine A ?_;refine CcB (I9 l) ?_;obtain ⟨_,a⟩ | ⟨_,a⟩:=cE a
           . refine Eb a Df λ _ a=>?_;exact zO a
           obtain ⟨_,m,a⟩:=bE a;refine A ?_;refine CcB (I9 m) ?_;obtain ⟨_,a⟩ | ⟨_,a⟩:=cE a
           . refine Eb a Df λ _ a=>?_;exact zO a
           refine Hs [0,10,20,30,50,60,70,42,80,90,100,110,120,130,140,150,160] ?_;obtain ⟨_,n,a⟩:=bE a;refine A ?_;refine GhB (RS n) ?_;obtain ⟨_,a⟩ | ⟨_,a⟩:=cE a
           . obtain ⟨_,a⟩ | ⟨_,a⟩:=cE a
             . obtain ⟨j,a⟩:=gE a;refine G7 j ?_;exact zO a
             refine Eb a Df λ _ a=>?_;exact zO a
           refine Eb a Df λ _ a=>?_;exact zO a
         refine Eb a Df λ _ a=>?_;exact zO a
       refine Eb a Df λ _ a=>?_;exact zO a
     refine Eb a Df λ _ a=>?_;exact zO a
   refine Eb a Df λ _ a=>?_;exact zO a
 refine Eb a Df λ _ a=>?_;exact zO a
def WS(e:Nt)(f:Ldg)(b:Cm4):Option (Ldg×OM):=
 (NG f).bind λ a=>(C1 0).bind λ g=>cond (b.kind=1) ((No e a.closed a.Dm a.CZ a.CR a.CN b).bind λ (x48,TZ)=>some (({a with CR:=TZ}:Ldg),x48)) (cond (b.kind=2) ((KU a.closed a.Dm a.CZ a.CR a.CN b).bind λ (Mr,Pw)=>some (({a with CR:=Pw}:Ldg),Mr)) (cond (b.kind=3) ((P3 e a.closed a.Dm a.CZ a.CR a.CN b).bind λ (x42,x43)=>some (({a with CZ:=x43}:Ldg),x42)) (cond (b.kind=4) ((P5 e a.closed a.Dm a.CZ a.CR a.CN b).bind λ (R3,H4,Wz,Sl)=>some ((⟨H4,Wz,Sl,a.CR,a.CN⟩:Ldg),R3)) (cond (b.kind=5) ((O8 e a.closed a.Dm a.CZ a.CR a.CN b).bind λ (O3,NC)=>some (({a with CN:=NC}:Ldg),O3)) (cond (b.kind=6) ((KT a.closed a.Dm a.CZ a.CR a.CN b).bind λ (OK,LG)=>some (({a with CN:=LG}:Ldg),OK)) (cond (b.kind=7) ((C1 3).bind λ PY=>cond (0<=b.n) (cond (b.n<(a.CR.length:Int)) ((CU a.CR b.n).bind λ Nn=>some (a,(⟨12,Nn.state⟩:OM))) (some (a,PY))) (some (a,PY))) (cond (b.kind=8) ((Mf e a.closed a.Dm a.CZ a.CR a.CN b).bind λ I6=>some (a,I6)) (cond (b.kind=9) ((Ft a.CN).bind λ (HB,RO,OL)=>some (a,(⟨12,HB⟩:OM))) (cond (b.kind=10) ((HL a.CR).bind λ Jp=>some (a,(⟨12,Jp⟩:OM))) (some (a,g)))))))))))
theorem Aw0{i k l r}(a:WS i k l=some r):
   Rq 119 [.agg i.c,.agg k.c,.agg l.c] [] [] (.Em [.agg r.1.c,.agg r.2.c]):=by
 refine EC func119 Azs ?_;unfold WS at a;refine Eb a Aje λ m a=>?_;refine Eb a Df λ _ a=>?_;obtain ⟨_,a⟩ | ⟨_,a⟩:=cE a
 . obtain ⟨_,a⟩ | ⟨_,a⟩:=cE a
   . obtain ⟨_,a⟩ | ⟨_,a⟩:=cE a
     . obtain ⟨_,a⟩ | ⟨_,a⟩:=cE a
       . obtain ⟨_,a⟩ | ⟨_,a⟩:=cE a
         . obtain ⟨_,a⟩ | ⟨_,a⟩:=cE a
           . obtain ⟨_,a⟩ | ⟨_,a⟩:=cE a
             . obtain ⟨_,a⟩ | ⟨_,a⟩:=cE a
               . obtain ⟨_,a⟩ | ⟨_,a⟩:=cE a
                 . obtain ⟨_,a⟩ | ⟨_,a⟩:=cE a
                   . refine C4 [4,8] [0,0,2,3] ?_;exact zP a
                   obtain ⟨_,b,a⟩:=bE a;refine A ?_;refine CcB (RS b) ?_;refine C4 [4,8] [0,0,2,3] ?_;exact zP a
                 obtain ⟨⟨_,_,_⟩,f,a⟩:=bE a;refine A ?_;refine CcB (HM f) ?_;refine C4 [4,8] [0,0,2,3] ?_;exact zP a
               refine Eb a Aa4 λ _ a=>?_;refine C4 [4,8] [0,0,2,3] ?_;exact zP a
             refine Eb a Df λ _ a=>?_;obtain ⟨_,a⟩ | ⟨_,a⟩:=cE a
             . refine C4 [4,8] [0,0,2,3] ?_;exact zP a
             obtain ⟨_,a⟩ | ⟨_,a⟩:=cE a
             . refine C4 [4,8] [0,0,2,3] ?_;exact zP a
             obtain ⟨_,a,_⟩:=jE EF a;refine C4 [4,8] [0,0,2,3] ?_;exact zP a
           refine Eb a Yw ?_;rintro ⟨_,_⟩ a;refine C4 [4,8] [0,0,2,3] ?_;exact zP a
         refine Eb a Af9 ?_;rintro ⟨_,_⟩ a;refine C4 [4,8] [0,0,2,3] ?_;exact zP a
       obtain ⟨⟨_,_,_,_⟩,g,a⟩:=bE a;refine A ?_;refine Nl (Wk.EA (id:=4) (j:=2) (q:=10013) (sz:=1) (e:=3) (es:=CS m.CZ) rfl AX rfl) ?_;(try simp only[go_sem, *,BR,BT]);refine CcD (Amh g) ?_;refine C4 [4,8] [0,0,2,3] ?_;exact zP a
     refine Eb a Amg ?_;rintro ⟨_,_⟩ a;refine C4 [4,8] [0,0,2,3] ?_;exact zP a
   refine Eb a Yx ?_;rintro ⟨_,_⟩ a;refine C4 [4,8] [0,0,2,3] ?_;exact zP a
 refine Eb a Ab7 ?_;rintro ⟨_,_⟩ a;refine C4 [4,8] [0,0,2,3] ?_;exact zP a
def E6(f:Nt)(e:Ldg):Ah×Int->Option ((Ah×Int)⊕((Ah×Int)))
 | (OR,MZ)=>cond (MZ<(e.CN.length:Int)) (cond (MZ=(OR.length:Int)) ((CU e.CN MZ).bind λ TZ=>(CU f.CT TZ.Eu).bind λ a=>cond (OR.length+1<10000000) ((CU (OR++[(⟨0,false,TZ.Eu,(-1),(-1),0,false,false,(-1),0,[a.base],0,0⟩:KM)]) MZ).bind λ b=>some (.inl (((OR++[(⟨0,false,TZ.Eu,(-1),(-1),0,false,false,(-1),0,[a.base],0,0⟩:KM)]).set MZ.toNat {b with E7:=TZ.E7}),(i64.wrap (MZ+1))))) none) ((CU e.CN MZ).bind λ KO=>(CU OR MZ).bind λ Mr=>some (.inl ((OR.set MZ.toNat {Mr with E7:=KO.E7}),(i64.wrap (MZ+1)))))) (some (.inr (OR,MZ)))
def K3(e:Nt)(i:Lm)(f:Cm4):Option (Lm×OM×Nc×Int):=
 (u_r03_Valid_v e).bind λ j=>cond j ((IL i).bind λ b=>(NR i).bind λ k=>(WS e k f).bind λ (x8,x9)=>(Hz {e with CP:=b.CP,CQ:=b.CQ,closed:=b.closed,Dm:=b.Dm,CZ:=b.CZ,CN:=b.CN,CR:=b.CR,C6:=b.C6,DV:=[],CO:=[],Fy:=[],DN:=[],DC:=[]} 1 x9.kind x9.n).bind λ GS=>cond (x9.kind=1) (cond (f.kind=6) ((CU b.CN f.n).bind λ Ar0=>cond ((b.CR.length:Int)<(x8.CR.length:Int)) ((CU x8.CR (i64.wrap ((x8.CR.length:Int) - 1))).bind λ Als=>cond (b.CR.length+1<10000000) ((C9 (E6 e x8) (b.CN,0)).bind (λ (Bwp,v264)=>(E4 e f.a).bind λ Blz=>(OD {e with CP:=b.CP,CQ:=b.CQ,closed:=x8.closed,Dm:=x8.Dm,CZ:=x8.CZ,CN:=Bwp,CR:=b.CR++[Als],C6:=b.C6,DV:=[],CO:=GS,Fy:=[],DN:=[],DC:=[]} f x9 Blz Ar0).bind λ (Buu,But,Bly,Blx,Bus,Bur,Blw,Buq,Bup,Buo,Bia)=>some ((⟨Buu,But,Bly,Blx,Bus,Bur,Blw,Buq⟩:Lm),x9,(⟨[],Bup,[],Buo,Bia⟩:Nc),0))) none) ((C9 (E6 e x8) (b.CN,0)).bind (λ (v196,v197)=>(E4 e f.a).bind λ Bm1=>(OD {e with CP:=b.CP,CQ:=b.CQ,closed:=x8.closed,Dm:=x8.Dm,CZ:=x8.CZ,CN:=v196,CR:=b.CR,C6:=b.C6,DV:=[],CO:=GS,Fy:=[],DN:=[],DC:=[]} f x9 Bm1 Ar0).bind λ (Bvk,Bvj,Aa2,Yp,Avn,Bvi,Avm,Bvh,Bvg,Bm0,Bvf)=>some ((⟨Bvk,Bvj,Aa2,Yp,Avn,Bvi,Avm,Bvh⟩:Lm),x9,(⟨[],Bvg,[],Bm0,Bvf⟩:Nc),0)))) (cond ((b.CR.length:Int)<(x8.CR.length:Int)) ((CU x8.CR (i64.wrap ((x8.CR.length:Int) - 1))).bind λ g=>cond (b.CR.length+1<10000000) ((C9 (E6 e x8) (b.CN,0)).bind (λ (Bmz,v130)=>(E4 e f.a).bind λ Bby=>(OD {e with CP:=b.CP,CQ:=b.CQ,closed:=x8.closed,Dm:=x8.Dm,CZ:=x8.CZ,CN:=Bmz,CR:=b.CR++[g],C6:=b.C6,DV:=[],CO:=GS,Fy:=[],DN:=[],DC:=[]} f x9 Bby (⟨0,false,0,0,0,0,false,false,0,0,[],0,0⟩:KM)).bind λ (Af4,Alw,Af3,Bme,Bbx,Bw1,PZ,Bbw,Vw,Aj4,Avq)=>some ((⟨Af4,Alw,Af3,Bme,Bbx,Bw1,PZ,Bbw⟩:Lm),x9,(⟨[],Vw,[],Aj4,Avq⟩:Nc),0))) none) ((C9 (E6 e x8) (b.CN,0)).bind (λ (WD,Yv)=>(E4 e f.a).bind λ TY=>(OD {e with CP:=b.CP,CQ:=b.CQ,closed:=x8.closed,Dm:=x8.Dm,CZ:=x8.CZ,CN:=WD,CR:=b.CR,C6:=b.C6,DV:=[],CO:=GS,Fy:=[],DN:=[],DC:=[]} f x9 TY (⟨0,false,0,0,0,0,false,false,0,0,[],0,0⟩:KM)).bind λ (x66,RN,x68,UQ,x70,x71,x72,Kb,x74,x75,x76)=>some ((⟨x66,RN,x68,UQ,x70,x71,x72,Kb⟩:Lm),x9,(⟨[],x74,[],x75,x76⟩:Nc),0))))) (some (b,x9,(⟨[],GS,[],[],[]⟩:Nc),0))) (some ((⟨[],[],[],[],[],[],[],false⟩:Lm),(⟨0,0⟩:OM),(⟨[],[],[],[],[]⟩:Nc),20))
theorem Aba{b p s r}(a:K3 b p s=some r):
   Rq 77 [.agg b.c,.agg p.c,.agg s.c] [] [] (.Em [.agg r.1.c,.agg r.2.1.c,.agg r.2.2.1.c,iD r.2.2.2]):=by
 refine EC func77 Bf6 ?_;unfold K3 at a;refine Eb a FW λ _ a=>?_;refine cP a λ _ a=>?_;refine Dd [0,0,2,0,1,0] ?_;refine FH a K2 λ e a=>?_;refine Ex [3,4,5] [0,10,30,81,91,22,42,50,60,70,104,113] ?_;refine FH a Aja λ _ a=>?_;refine FH a Aw0 ?_;rintro ⟨f,_⟩ a;obtain ⟨GS,m,a⟩:=bE a;refine A ?_;refine Nl ((Wk.EP (id:=26) (j:=16) (q:=526016) (sz:=5) 178 rfl rfl rfl AV).trans ((Wk.EP (id:=26) (j:=17) (q:=526017) (sz:=4) 242 rfl rfl rfl AV).trans ((Wk.EP (id:=26) (j:=18) (q:=526018) (sz:=2) 205 rfl rfl rfl AV).trans ((Wk.EP (id:=26) (j:=19) (q:=526019) (sz:=1) 3 rfl rfl rfl AV).trans (Wk.EP (id:=26) (j:=20) (q:=526020) (sz:=1) 3 rfl rfl rfl AV))))) ?_;try simp only[go_sem, *,BR,BT]
 refine CcD (F6 m) ?_;obtain ⟨_,a⟩ | ⟨_,a⟩:=cE a
 . refine C4 [12,26] [0,0,0,0,0,0,0,0,0,2,2,2,0] ?_;exact zP a
 obtain ⟨_,a⟩ | ⟨_,a⟩:=cE a
 . refine Dd [0,0,0,0,0,0,0,0,0,0] ?_;obtain ⟨_,a⟩ | ⟨_,a⟩:=cE a
   . obtain ⟨z,n,a⟩:=bE a;refine HV n [3,5,6,7,8,10,11,12,13] [3,5,6,7,8,11,12,13,20024,526016,526017,526018,526019,526020] (λ q=>[(14,iD q.2)]) (λ q=>[(26,.box [sD (FF b.blocks),sD (Dy b.next),sD (Gy b.CT),sD (CS b.C7),iD b.cq,iD b.ca,iD b.cd,iD b.cp,sD (CS e.CP),sD (Dy e.CQ),sD (Dl f.closed),sD (CS f.Dm),sD (CS f.CZ),rD 10024 q.1,rD 20024 e.CR,bD e.C6,.ref 526016 0 0 0,rD 526017 GS,.ref 526018 0 0 0,.ref 526019 0 0 0,.ref 526020 0 0 0]),(10024,.arr 171 13 (Ec q.1))]) ?_;rintro ⟨OR,MZ⟩ _ JO Bje;rw[E6.eq_1] at JO;obtain ⟨i,JO⟩ | ⟨i,JO⟩:=cK JO
     . cases kR JO;(try dsimp only at a);refine Ex [3,5,12,13] [0,10,20,30,40,50,70,62,83] ?_;refine FH a Iz λ _ a=>?_;refine FH a X6 ?_;rintro ⟨_,_,_,_,_,_,_,_,_,_,_⟩ a;refine C4 [12,26] [0,0,0,0,0,0,0,0,0,2,2,2,0] ?_;exact zP a
     obtain ⟨_,JO⟩ | ⟨_,JO⟩:=cK JO
     . refine Dd [0,0,0,0,0,0,0,0,0,0,0,0,0,0,3] ?_;obtain ⟨_,JO,_⟩:=jK Da JO;obtain ⟨_,JO,_⟩:=jK Da JO;exact AL (Bje _ _ (kI JO))
     obtain ⟨_,JO,_⟩:=jK Da JO;refine C4 [3,26] [0,0,0,0,0,0,0,0,0,0,0,0,0,1,0,2,2,0,0,0,3] ?_;obtain ⟨_,JO,_⟩:=jK Ew JO;obtain ⟨k,JO⟩:=gK JO;refine G7 k ?_;refine Dd [0,0,0,0,0,0,0,0,0,0,0,0,0,0,3] ?_;obtain ⟨_,JO,_⟩:=jK Da JO;exact AL (Bje _ _ (kI JO))
   refine C4 [11,26] [0,0,0,0,0,0,0,0,0,0,0,0,0,0,1,2,0,0,0,3] ?_;obtain ⟨g,a,_⟩:=jE EF a;obtain ⟨l,a⟩:=gE a;refine G7 l ?_;obtain ⟨B,o,a⟩:=bE a;refine HV o [3,5,6,7,8,10,11,12,13] [3,5,6,7,8,11,12,13,20024,526016,526017,526018,526019,526020] (λ q=>[(14,iD q.2)]) (λ q=>[(26,.box [sD (FF b.blocks),sD (Dy b.next),sD (Gy b.CT),sD (CS b.C7),iD b.cq,iD b.ca,iD b.cd,iD b.cp,sD (CS e.CP),sD (Dy e.CQ),sD (Dl f.closed),sD (CS f.Dm),sD (CS f.CZ),rD 10024 q.1,.ref 20024 0 ((e.CR++[g]).length) ((e.CR++[g]).length),bD e.C6,.ref 526016 0 0 0,rD 526017 GS,.ref 526018 0 0 0,.ref 526019 0 0 0,.ref 526020 0 0 0]),(10024,.arr 171 13 (Ec q.1))]) ?_;rintro ⟨E,H⟩ _ OV Brf;rw[E6.eq_1] at OV;obtain ⟨_,OV⟩ | ⟨_,OV⟩:=cK OV
   . cases kR OV;(try dsimp only at a);refine Ex [3,5,12,13] [0,10,20,30,40,50,70,62,83] ?_;refine FH a Iz λ _ a=>?_;refine FH a X6 ?_;rintro ⟨_,_,_,_,_,_,_,_,_,_,_⟩ a;refine C4 [12,26] [0,0,0,0,0,0,0,0,0,2,2,2,0] ?_;exact zP a
   obtain ⟨_,OV⟩ | ⟨_,OV⟩:=cK OV
   . refine Dd [0,0,0,0,0,0,0,0,0,0,0,0,0,0,3] ?_;obtain ⟨_,OV,_⟩:=jK Da OV;obtain ⟨_,OV,_⟩:=jK Da OV;exact AL (Brf _ _ (kI OV))
   obtain ⟨_,OV,_⟩:=jK Da OV;refine C4 [3,26] [0,0,0,0,0,0,0,0,0,0,0,0,0,1,0,2,2,0,0,0,3] ?_;obtain ⟨_,OV,_⟩:=jK Ew OV;obtain ⟨Caz,OV⟩:=gK OV;refine G7 Caz ?_;refine Dd [0,0,0,0,0,0,0,0,0,0,0,0,0,0,3] ?_;obtain ⟨_,OV,_⟩:=jK Da OV;exact AL (Brf _ _ (kI OV))
 refine Dd [0,0,0,0,0,0,0,0,0,3] ?_;obtain ⟨_,a,_⟩:=jE Da a;refine Dd [0,0,0,0,0,0,0,0,0,0] ?_;obtain ⟨_,a⟩ | ⟨_,a⟩:=cE a
 . obtain ⟨t,Bzs,a⟩:=bE a;refine HV Bzs [3,5,6,7,8,10,11,12,13] [3,5,6,7,8,11,12,13,20024,526016,526017,526018,526019,526020] (λ q=>[(14,iD q.2)]) (λ q=>[(26,.box [sD (FF b.blocks),sD (Dy b.next),sD (Gy b.CT),sD (CS b.C7),iD b.cq,iD b.ca,iD b.cd,iD b.cp,sD (CS e.CP),sD (Dy e.CQ),sD (Dl f.closed),sD (CS f.Dm),sD (CS f.CZ),rD 10024 q.1,rD 20024 e.CR,bD e.C6,.ref 526016 0 0 0,rD 526017 GS,.ref 526018 0 0 0,.ref 526019 0 0 0,.ref 526020 0 0 0]),(10024,.arr 171 13 (Ec q.1))]) ?_;rintro ⟨v,w⟩ _ JH Bld;rw[E6.eq_1] at JH;obtain ⟨_,JH⟩ | ⟨_,JH⟩:=cK JH
   . cases kR JH;(try dsimp only at a);refine Ex [3,5,12,13] [0,10,20,30,40,50,70,62,83] ?_;refine FH a Iz λ _ a=>?_;refine FH a X6 ?_;rintro ⟨_,_,_,_,_,_,_,_,_,_,_⟩ a;refine C4 [12,26] [0,0,0,0,0,0,0,0,0,2,2,2,0] ?_;exact zP a
   obtain ⟨_,JH⟩ | ⟨_,JH⟩:=cK JH
   . refine Dd [0,0,0,0,0,0,0,0,0,0,0,0,0,0,3] ?_;obtain ⟨_,JH,_⟩:=jK Da JH;obtain ⟨_,JH,_⟩:=jK Da JH;exact AL (Bld _ _ (kI JH))
   obtain ⟨_,JH,_⟩:=jK Da JH;refine C4 [3,26] [0,0,0,0,0,0,0,0,0,0,0,0,0,1,0,2,2,0,0,0,3] ?_;obtain ⟨_,JH,_⟩:=jK Ew JH;obtain ⟨Cam,JH⟩:=gK JH;refine G7 Cam ?_;refine Dd [0,0,0,0,0,0,0,0,0,0,0,0,0,0,3] ?_;obtain ⟨_,JH,_⟩:=jK Da JH;exact AL (Bld _ _ (kI JH))
 refine C4 [11,26] [0,0,0,0,0,0,0,0,0,0,0,0,0,0,1,2,0,0,0,3] ?_;obtain ⟨Als,a,_⟩:=jE EF a;obtain ⟨Cal,a⟩:=gE a;refine G7 Cal ?_;obtain ⟨u,Bzr,a⟩:=bE a;refine HV Bzr [3,5,6,7,8,10,11,12,13] [3,5,6,7,8,11,12,13,20024,526016,526017,526018,526019,526020] (λ q=>[(14,iD q.2)]) (λ q=>[(26,.box [sD (FF b.blocks),sD (Dy b.next),sD (Gy b.CT),sD (CS b.C7),iD b.cq,iD b.ca,iD b.cd,iD b.cp,sD (CS e.CP),sD (Dy e.CQ),sD (Dl f.closed),sD (CS f.Dm),sD (CS f.CZ),rD 10024 q.1,.ref 20024 0 ((e.CR++[Als]).length) ((e.CR++[Als]).length),bD e.C6,.ref 526016 0 0 0,rD 526017 GS,.ref 526018 0 0 0,.ref 526019 0 0 0,.ref 526020 0 0 0]),(10024,.arr 171 13 (Ec q.1))]) ?_;rintro ⟨x,y⟩ _ JG Blc;rw[E6.eq_1] at JG;obtain ⟨_,JG⟩ | ⟨_,JG⟩:=cK JG
 . cases kR JG;(try dsimp only at a);refine Ex [3,5,12,13] [0,10,20,30,40,50,70,62,83] ?_;refine FH a Iz λ _ a=>?_;refine FH a X6 ?_;rintro ⟨_,_,_,_,_,_,_,_,_,_,_⟩ a;refine C4 [12,26] [0,0,0,0,0,0,0,0,0,2,2,2,0] ?_;exact zP a
 obtain ⟨_,JG⟩ | ⟨_,JG⟩:=cK JG
 . refine Dd [0,0,0,0,0,0,0,0,0,0,0,0,0,0,3] ?_;obtain ⟨_,JG,_⟩:=jK Da JG;obtain ⟨_,JG,_⟩:=jK Da JG;exact AL (Blc _ _ (kI JG))
 obtain ⟨_,JG,_⟩:=jK Da JG;refine C4 [3,26] [0,0,0,0,0,0,0,0,0,0,0,0,0,1,0,2,2,0,0,0,3] ?_;obtain ⟨_,JG,_⟩:=jK Ew JG;obtain ⟨Cak,JG⟩:=gK JG;refine G7 Cak ?_;refine Dd [0,0,0,0,0,0,0,0,0,0,0,0,0,0,3] ?_;obtain ⟨_,JG,_⟩:=jK Da JG;exact AL (Blc _ _ (kI JG))
abbrev Aj:=List (List UO)
def QX(a:O1):Aj×Int->Option ((Aj×Int)⊕((Aj×Int)))
 | (Jq,OR)=>cond (OR<(a.up.length:Int)) ((CU a.up OR).bind λ G8=>cond (G8.length<10000000) (cond (Jq.length+1<10000000) (some (.inl ((Jq++[G8]),(i64.wrap (OR+1))))) none) none) (some (.inr (Jq,OR)))
def QW(e:O1):Aj×Int->Option ((Aj×Int)⊕((Aj×Int)))
 | (b,a)=>cond (a<(e.down.length:Int)) ((CU e.down a).bind λ KP=>cond (KP.length<10000000) (cond (b.length+1<10000000) (some (.inl ((b++[KP]),(i64.wrap (a+1))))) none) none) (some (.inr (b,a)))
def NF(a:O1):Option (O1):=
 (IL (⟨a.CP,a.CQ,a.closed,a.Dm,a.CZ,a.CN,a.CR,a.C6⟩:Lm)).bind λ b=>cond (a.CV.length<10000000) (cond (a.CX.length<10000000) ((C9 (QW a) ([],0)).bind (λ (v39,v40)=>(C9 (QX a) ([],0)).bind (λ (v57,v58)=>some (⟨b.CP,b.CQ,b.closed,b.Dm,b.CZ,b.CN,b.CR,b.C6,a.CV,a.CX,v39,v57⟩:O1)))) none) none
theorem Aj9{a r}(e:NF a=some r):
   Rq 44 [.agg [sD (CS a.CP),sD (Dy a.CQ),sD (Dl a.closed),sD (CS a.Dm),sD (CS a.CZ),sD (Ec a.CN),sD (DE a.CR),bD a.C6,sD (Ei a.CV),sD (EB a.CX),sD (C8 a.down),sD (C8 a.up)]] [] [(0,.arr 171 13 (Ec r.CN)),(1,.arr 229 5 (DE r.CR)),(2,.arr 118 4 (Ei r.CV)),(3,.arr 121 5 (EB r.CX)),(4,.arr 134 1 (C8 r.down)),(5,.arr 134 1 (C8 r.up))] (.agg [sD (CS r.CP),sD (Dy r.CQ),sD (Dl r.closed),sD (CS r.Dm),sD (CS r.CZ),rD 0 r.CN,rD 1 r.CR,bD r.C6,rD 2 r.CV,rD 3 r.CX,rD 4 r.down,rD 5 r.up]):=by
 refine EC func44 Bfu ?_;unfold NF at e;refine Ex [1] [0,10,30,40,60,70,101,22,52,82,90,113] ?_;refine FH e K2 λ b e=>?_;obtain ⟨o,e⟩:=gE e;refine G7 o ?_;obtain ⟨p,e⟩:=gE e;refine G7 p ?_;obtain ⟨s,l,e⟩:=bE e;refine A ?_;refine E0 l (λ q=>⟨[(1,.ptr 1 0),(2,.ptr 2 0),(3,.ptr 3 0),(4,iD q.2)],[(1,.box [sD (CS a.CP),sD (Dy a.CQ),sD (Dl a.closed),sD (CS a.Dm),sD (CS a.CZ),sD (Ec a.CN),sD (DE a.CR),bD a.C6,sD (Ei a.CV),sD (EB a.CX),sD (C8 a.down),sD (C8 a.up)]),(2,.box [.cl [],.cl [],.cl [],.cl [],.cl [],.cl [],.cl [],bD false,.cl [],.cl [],.cl [],.cl []]),(3,.box [sD (CS b.CP),sD (Dy b.CQ),sD (Dl b.closed),sD (CS b.Dm),sD (CS b.CZ),rD 10008 b.CN,rD 20008 b.CR,bD b.C6,rD 11 a.CV,rD 14 a.CX,rD 32 q.1,.cl []]),(11,.arr 118 4 (Ei a.CV)),(14,.arr 121 5 (EB a.CX)),(32,.arr 134 1 (C8 q.1)),(10008,.arr 171 13 (Ec b.CN)),(20008,.arr 229 5 (DE b.CR))],53⟩) ((Wk.EP (id:=3) (j:=10) (q:=32) (sz:=1) 134 rfl rfl rfl AV).trans Wr) ?_;rintro ⟨n,u⟩ _ EU MK;rw[QW.eq_1] at EU;obtain ⟨_,EU⟩ | ⟨_,EU⟩:=cK EU
 . cases kR EU;obtain ⟨t,m,e⟩:=bE e;refine A ?_;refine E0 m (λ q=>⟨[(1,.ptr 1 0),(2,.ptr 2 0),(3,.ptr 3 0),(5,iD q.2)],[(1,.box [sD (CS a.CP),sD (Dy a.CQ),sD (Dl a.closed),sD (CS a.Dm),sD (CS a.CZ),sD (Ec a.CN),sD (DE a.CR),bD a.C6,sD (Ei a.CV),sD (EB a.CX),sD (C8 a.down),sD (C8 a.up)]),(2,.box [.cl [],.cl [],.cl [],.cl [],.cl [],.cl [],.cl [],bD false,.cl [],.cl [],.cl [],.cl []]),(3,.box [sD (CS b.CP),sD (Dy b.CQ),sD (Dl b.closed),sD (CS b.Dm),sD (CS b.CZ),rD 10008 b.CN,rD 20008 b.CR,bD b.C6,rD 11 a.CV,rD 14 a.CX,rD 32 n,rD 50 q.1]),(11,.arr 118 4 (Ei a.CV)),(14,.arr 121 5 (EB a.CX)),(32,.arr 134 1 (C8 n)),(50,.arr 134 1 (C8 q.1)),(10008,.arr 171 13 (Ec b.CN)),(20008,.arr 229 5 (DE b.CR))],53⟩) ((Wk.EP (id:=3) (j:=11) (q:=50) (sz:=1) 134 rfl rfl rfl AV).trans Wr) ?_;rintro ⟨Jq,OR⟩ _ GM Bjf;rw[QX.eq_1] at GM;obtain ⟨_,GM⟩ | ⟨_,GM⟩:=cK GM
   . cases kR GM;exact zO e
   refine C4 [1,3] [0,0,0,0,0,0,0,2,2,2,0,3] ?_;obtain ⟨_,GM,_⟩:=jK Eo GM;obtain ⟨f,GM⟩:=gK GM;refine G7 f ?_;obtain ⟨g,GM⟩:=gK GM;refine G7 g ?_;exact AL (Bjf _ _ (kI GM))
 refine C4 [1,3] [0,0,0,0,0,0,0,2,2,2,0,3] ?_;obtain ⟨_,EU,_⟩:=jK Eo EU;obtain ⟨i,EU⟩:=gK EU;refine G7 i ?_;obtain ⟨k,EU⟩:=gK EU;refine G7 k ?_;exact AL (MK _ _ (kI EU))
theorem Aj8{a r}(b:NF a=some r):
   Rq 44 [.agg [sD (CS a.CP),sD (Dy a.CQ),sD (Dl a.closed),sD (CS a.Dm),sD (CS a.CZ),sD (Ec a.CN),sD (DE a.CR),bD a.C6,sD (Ei a.CV),sD (EB a.CX),sD (C8 a.down),sD (C8 a.up)]] [] [(0,.arr 118 4 (Ei r.CV)),(1,.arr 121 5 (EB r.CX)),(2,.arr 134 1 (C8 r.down)),(3,.arr 134 1 (C8 r.up))] (.agg [sD (CS r.CP),sD (Dy r.CQ),sD (Dl r.closed),sD (CS r.Dm),sD (CS r.CZ),sD (Ec r.CN),sD (DE r.CR),bD r.C6,rD 0 r.CV,rD 1 r.CX,rD 2 r.down,rD 3 r.up]):=by
 refine C3.Bch (Aj9 b) ?_;rintro h d ⟨rfl,rfl⟩;refine ⟨[(false,sD (CS r.CP)),(false,sD (Dy r.CQ)),(false,sD (Dl r.closed)),(false,sD (CS r.Dm)),(false,sD (CS r.CZ)),(true,rD 0 r.CN),(true,rD 1 r.CR),(false,bD r.C6),(false,rD 2 r.CV),(false,rD 3 r.CX),(false,rD 4 r.down),(false,rD 5 r.up)],rfl,?_⟩;simp only[go_sem,Aeq,HH,bor]
def Asr(e:Int)(f:Au):Aj×Int->Option ((Aj×Int)⊕((Aj×Int)))
 | (b,a)=>cond (a<(f.length:Int)) ((CU b e).bind λ GS=>(CU f a).bind λ Jp=>(Ku GS Jp).bind λ OL=>some (.inl ((b.set e.toNat OL),(i64.wrap (a+1))))) (some (.inr (b,a)))
def Qs(a:GF)(b:Int)(e:Au):Option Aj:=
 (C9 (Asr b e) (a.up,0)).bind (λ (v21,Mu)=>some v21)
theorem Bjt{a e f r}(b:Qs a e f=some r):
   Rq 81 [.ptr 1000000 0,iD e,sD (Et f)] (GF.h2 a) (GF.h2 ({a with up:=r})) (.Em []):=by
 refine EC func81 Aoi ?_;unfold Qs at b;obtain ⟨i,g,b⟩:=bE b;refine HV g [0,1,2] [] (λ q=>[(6,iD q.2)]) (λ q=>GF.h2 ({a with up:=q.1})) ?_;rintro ⟨j,k⟩ _ EO YN;rw[Asr.eq_1] at EO;obtain ⟨_,EO⟩ | ⟨_,EO⟩:=cK EO
 . cases kR EO;exact zO b
 refine C4 [1000000,1000003] [0,0,0,0,0,0,0,0,0,0,0,0,0,0,0,0,0,0,2,0,3] ?_;obtain ⟨_,EO,_⟩:=jK Eo EO;obtain ⟨_,EO,_⟩:=jK Ot EO;refine Sh EO Pc λ _ EO=>?_;exact AL (YN _ _ (kI EO))
def PO(a:GF)(b:Int)(e:Int)(f:Int):Option Ak:=
 cond (a.G6.length+1<10000000) (some (a.G6++[(⟨0,b,e,f⟩:Ety)])) none
theorem Aod{b e f g r}(a:PO b e f g=some r):
   Rq 88 [.ptr 1000000 0,iD e,iD f,iD g] (GF.h2 b) (GF.h2 ({b with G6:=r})) (.Em []):=by
 refine EC func88 Aoh ?_;unfold PO at a;obtain ⟨i,a⟩:=gE a;refine G7 i ?_;exact zO a
def NO(b:Nt)(a:Aw)(e:Int)(f:Int)(g:Int):Option (Aw×Bool):=
 (W7 b a e f g).bind λ (x1,x2)=>cond (x2=0) (some (x1,true)) (some (a,false))
theorem Vz{b e f g i r}(a:NO b e f g i=some r):
   Rq 99 [.agg b.c,sD (Ei e),iD f,iD g,iD i] [] [] (.Em [sD (Ei r.1),bD r.2]):=by
 refine EC func99 Bem ?_;unfold NO at a;refine Eb a Aw2 ?_;rintro ⟨_,_⟩ a;refine cP a λ _ a=>?_;exact zP a
def Il:Option (Wy):=
 some (⟨0,(-1),false,0,0⟩:Wy)
theorem Py{r}(a:Il=some r):
   Rq 40 [] [] [] (.agg r.c):=by
 refine EC func40 Bfy ?_;unfold Il at a;exact zP a
def Ahn(b:GF)(f:Nc):Aw×Int->Option ((Aw×Int)⊕((Aw×Int)))
 | (e,a)=>cond (a<(f.DC.length:Int)) ((CU f.DC a).bind λ UR=>(NO (⟨b.blocks,b.next,b.CT,b.C7,b.cq,b.ca,b.cd,b.cp⟩:Nt) e UR 5 0).bind λ (Vv,x57)=>some (.inl (Vv,(i64.wrap (a+1))))) (some (.inr (e,a)))
def Ahm(e:Nc):Aj×Int->Option ((Aj×Int)⊕((Aj×Int)))
 | (Mt,RQ)=>cond (RQ<(e.DV.length:Int)) ((CU e.DV RQ).bind λ a=>(CU Mt a.CY).bind λ b=>(Ku b a).bind λ UQ=>some (.inl ((Mt.set a.CY.toNat UQ),(i64.wrap (RQ+1))))) (some (.inr (Mt,RQ)))
abbrev Az:=List Wy
def Ahl(b:GF)(j:Nc):Az×Aj×Aj×Ak×Aw×Int->Option ((Az×Aj×Aj×Ak×Aw×Int)⊕((Az×Aj×Aj×Ak×Aw×Int)))
 | (e,f,Mu,O6,g,Ls)=>cond (Ls<(j.Fy.length:Int)) ((CU j.Fy Ls).bind λ a=>(NO (⟨b.blocks,b.next,b.CT,b.C7,b.cq,b.ca,b.cd,b.cp⟩:Nt) g a.CY 0 a.cell).bind λ (x96,Si)=>Option.bind Il λ i=>(CU e a.CY).bind λ R4=>(CU f a.CY).bind λ Af5=>(CU Mu a.CY).bind λ Am0=>(PO {b with CV:=x96,CX:=e.set a.CY.toNat i,down:=f.set a.CY.toNat [],up:=Mu.set a.CY.toNat [],G6:=O6} 17 a.CY a.cell).bind λ WA=>some (.inl ((e.set a.CY.toNat i),(f.set a.CY.toNat []),(Mu.set a.CY.toNat []),WA,x96,(i64.wrap (Ls+1))))) (some (.inr (e,f,Mu,O6,g,Ls)))
def Ahk(a:GF)(e:Nc):Ak×Aw×Int->Option ((Ak×Aw×Int)⊕((Ak×Aw×Int)))
 | (f,g,b)=>cond (b<(e.DN.length:Int)) ((CU e.DN b).bind λ Bq6=>(NO (⟨a.blocks,a.next,a.CT,a.C7,a.cq,a.ca,a.cd,a.cp⟩:Nt) g Bq6 6 0).bind λ (Avo,x187)=>(PO {a with CV:=Avo,G6:=f} 18 Bq6 0).bind λ Bm2=>some (.inl (Bm2,Avo,(i64.wrap (b+1))))) (some (.inr (f,g,b)))
def GP(a:GF)(b:Nc):Option (Aw×Az×Aj×Aj×Ak):=
 cond (a.G6.length+b.CO.length<10000000) ((C9 (Ahk a b) ((a.G6++b.CO),a.CV,0)).bind (λ (Bwt,Bws,v193)=>(C9 (Ahl a b) (a.CX,a.down,a.up,Bwt,Bws,0)).bind (λ (Bwo,Bwn,Bwm,Bwl,Bwk,v301)=>(C9 (Ahm b) (Bwn,0)).bind (λ (Bwi,v342)=>(C9 (Ahn a b) (Bwk,0)).bind (λ (Bwh,v361)=>some (Bwh,Bwo,Bwi,Bwm,Bwl)))))) none
theorem HQ{b m r}(a:GP b m=some r):
   Rq 48 [.ptr 1000000 0,.agg m.c] (GF.h2 b) (GF.h2 ({b with CV:=r.1,CX:=r.2.1,down:=r.2.2.1,up:=r.2.2.2.1,G6:=r.2.2.2.2})) (.Em []):=by
 refine EC func48 Bfq ?_;unfold GP at a;refine C4 [3,1000000] [0,0,0,0,0,0,0,2,0,0,3] ?_;obtain ⟨n,a⟩:=gE a;refine G7 n ?_;obtain ⟨o,f,a⟩:=bE a;refine HV f [0,3] [3] (λ q=>[(4,iD q.2.2)]) (λ q=>GF.h2 ({b with CV:=q.2.1,G6:=q.1})) ?_;rintro ⟨x,y,z⟩ _ Fv k;rw[Ahk.eq_1] at Fv;obtain ⟨_,Fv⟩ | ⟨_,Fv⟩:=cK Fv
 . cases kR Fv;obtain ⟨p,g,a⟩:=bE a;refine HV g [0,3] [3] (λ q=>[(5,iD q.2.2.2.2.2)]) (λ q=>GF.h2 ({b with CV:=q.2.2.2.2.1,CX:=q.1,down:=q.2.1,up:=q.2.2.1,G6:=q.2.2.2.1})) ?_;rintro ⟨e,u,Mu,O6,l,Ls⟩ _ ES Afo;rw[Ahl.eq_1] at ES;obtain ⟨_,ES⟩ | ⟨_,ES⟩:=cK ES
   . cases kR ES;obtain ⟨s,i,a⟩:=bE a;refine HV i [0,3] [3] (λ q=>[(7,iD q.2)]) (λ q=>GF.h2 ({b with CV:=l,CX:=e,down:=q.1,up:=Mu,G6:=O6})) ?_;rintro ⟨Mt,RQ⟩ _ D6 Aae;rw[Ahm.eq_1] at D6;obtain ⟨_,D6⟩ | ⟨_,D6⟩:=cK D6
     . cases kR D6;obtain ⟨t,j,a⟩:=bE a;refine HV j [0,3] [3] (λ q=>[(9,iD q.2)]) (λ q=>GF.h2 ({b with CV:=q.1,CX:=e,down:=Mt,up:=Mu,G6:=O6})) ?_;rintro ⟨v,w⟩ _ Aft By9;rw[Ahn.eq_1] at Aft;obtain ⟨_,Aft⟩ | ⟨_,Aft⟩:=cK Aft
       . cases kR Aft;exact zO a
       refine C4 [3,1000000] [0,0,0,0,0,0,0,0,0,0,0,0,0,0,0,2,0,0,0,0,0,0,4] ?_;obtain ⟨_,Aft,_⟩:=jK Dk Aft;refine Sh Aft Vz ?_;rintro ⟨_,_⟩ Aft;exact AL (By9 _ _ (kI Aft))
     obtain ⟨_,D6,_⟩:=jK Ot D6;refine C4 [3,1000000,1000002] [0,0,0,0,0,0,0,0,0,0,0,0,0,0,0,0,0,0,0,2,0,3] ?_;obtain ⟨_,D6,_⟩:=jK Eo D6;refine Sh D6 Pc λ _ D6=>?_;exact AL (Aae _ _ (kI D6))
   obtain ⟨_,ES,_⟩:=jK Ap4 ES;refine C4 [6,1000000] [0,0,0,0,0,0,0,0,0,0,0,0,0,0,2,0,0,0,0,0,0,4] ?_;refine Sh ES Vz ?_;rintro ⟨_,_⟩ ES;refine C4 [6,1000000,1000001] [0,0,0,0,0,0,0,2,0,3] ?_;refine Sh ES Py λ _ ES=>?_;obtain ⟨_,ES,_⟩:=jK Li ES;refine C4 [6,1000000,1000003] [0,0,0,0,0,0,0,0,0,0,0,0,0,0,2,2,0,3] ?_;obtain ⟨_,ES,_⟩:=jK Eo ES;obtain ⟨_,ES,_⟩:=jK Eo ES;refine FI ES Aod λ _ ES=>?_;exact AL (Afo _ _ (kI ES))
 refine C4 [3,1000000] [0,0,0,0,0,0,0,0,0,0,0,0,0,0,0,2,0,0,0,0,0,0,4] ?_;obtain ⟨_,Fv,_⟩:=jK Dk Fv;refine Sh Fv Vz ?_;rintro ⟨_,_⟩ Fv;refine FI Fv Aod λ _ Fv=>?_;exact AL (k _ _ (kI Fv))
def Mg(e:Ad):Option Cm4:=some ⟨(Ald e).kind,(Ald e).a,(Ald e).b,(Ald e).n⟩
theorem Aa5{a r}(b:Mg a=some r):C3 prog 78 [.p (.str a)] [] λ h d=>h=[]/\d= .agg r.c:=by
 unfold Mg at b;obtain rfl:=Bf b;exact Bk9 a
def Tq(b:Lm):Aw×Az×Aj×Aj->Option ((Aw×Az×Aj×Aj)⊕((Aw×Az×Aj×Aj)))
 | (a,JR,FP,Ho)=>cond ((a.length:Int)<(b.CN.length:Int)) (cond (a.length+1<10000000) (Option.bind Il λ T0=>cond (JR.length+1<10000000) (cond (FP.length+1<10000000) (cond (Ho.length+1<10000000) (some (.inl ((a++[(⟨(-1),(-1),false,false⟩:O2)]),(JR++[T0]),(FP++[[]]),(Ho++[[]])))) none) none) none) none) (some (.inr (a,JR,FP,Ho)))
def L3(a:GF)(b:Ad):Option (OM×Aa×Ab×Ac×Aa×Aa×Ah×Ao×Bool×Aw×Az×Aj×Aj×Ak):=
 (Mg b).bind λ e=>(K3 (⟨a.blocks,a.next,a.CT,a.C7,a.cq,a.ca,a.cd,a.cp⟩:Nt) (⟨a.CP,a.CQ,a.closed,a.Dm,a.CZ,a.CN,a.CR,a.C6⟩:Lm) e).bind λ (x3,x4,x5,x6)=>(C9 (Tq x3) (a.CV,a.CX,a.down,a.up)).bind (λ (Mt,RQ,v36,v37)=>(GP {a with CP:=x3.CP,CQ:=x3.CQ,closed:=x3.closed,Dm:=x3.Dm,CZ:=x3.CZ,CN:=x3.CN,CR:=x3.CR,C6:=x3.C6,CV:=Mt,CX:=RQ,down:=v36,up:=v37} x5).bind λ (H4,Wz,Sl,KO,x42)=>some (x4,x3.CP,x3.CQ,x3.closed,x3.Dm,x3.CZ,x3.CN,x3.CR,x3.C6,H4,Wz,Sl,KO,x42))
theorem Afw{a s r}(b:L3 a s=some r):
   C3 prog 45 [.ptr 1000000 0,.p (.str s)] (GF.h a) λ h d=>(h=(GF.h ({a with CP:=r.2.1,CQ:=r.2.2.1,closed:=r.2.2.2.1,Dm:=r.2.2.2.2.1,CZ:=r.2.2.2.2.2.1,CN:=r.2.2.2.2.2.2.1,CR:=r.2.2.2.2.2.2.2.1,C6:=r.2.2.2.2.2.2.2.2.1,CV:=r.2.2.2.2.2.2.2.2.2.1,CX:=r.2.2.2.2.2.2.2.2.2.2.1,down:=r.2.2.2.2.2.2.2.2.2.2.2.1,up:=r.2.2.2.2.2.2.2.2.2.2.2.2.1,G6:=r.2.2.2.2.2.2.2.2.2.2.2.2.2}))∨(∃es,h=[(1000000,.box [sD (FF a.blocks),sD (Dy a.next),sD (Gy a.CT),sD (CS a.C7),iD a.cq,iD a.ca,iD a.cd,iD a.cp,sD (CS r.2.1),sD (Dy r.2.2.1),sD (Dl r.2.2.2.1),sD (CS r.2.2.2.2.1),sD (CS r.2.2.2.2.2.1),sD (Ec r.2.2.2.2.2.2.1),sD (DE r.2.2.2.2.2.2.2.1),bD r.2.2.2.2.2.2.2.2.1,sD (Ei r.2.2.2.2.2.2.2.2.2.1),rD 1000002 r.2.2.2.2.2.2.2.2.2.2.1,rD 1000003 r.2.2.2.2.2.2.2.2.2.2.2.1,rD 1000004 r.2.2.2.2.2.2.2.2.2.2.2.2.1,rD 1000005 r.2.2.2.2.2.2.2.2.2.2.2.2.2]),(1000001,.Oh 4 es),(1000002,.arr 121 5 (EB r.2.2.2.2.2.2.2.2.2.2.1)),(1000003,.arr 134 1 (C8 r.2.2.2.2.2.2.2.2.2.2.2.1)),(1000004,.arr 134 1 (C8 r.2.2.2.2.2.2.2.2.2.2.2.2.1)),(1000005,.arr 242 4 (FC r.2.2.2.2.2.2.2.2.2.2.2.2.2))])∨(∃es,h=[(1000000,.box [sD (FF a.blocks),sD (Dy a.next),sD (Gy a.CT),sD (CS a.C7),iD a.cq,iD a.ca,iD a.cd,iD a.cp,sD (CS r.2.1),sD (Dy r.2.2.1),sD (Dl r.2.2.2.1),sD (CS r.2.2.2.2.1),sD (CS r.2.2.2.2.2.1),sD (Ec r.2.2.2.2.2.2.1),sD (DE r.2.2.2.2.2.2.2.1),bD r.2.2.2.2.2.2.2.2.1,sD (Ei r.2.2.2.2.2.2.2.2.2.1),rD 1000002 r.2.2.2.2.2.2.2.2.2.2.1,rD 1000003 r.2.2.2.2.2.2.2.2.2.2.2.1,rD 1000004 r.2.2.2.2.2.2.2.2.2.2.2.2.1,rD 1000005 r.2.2.2.2.2.2.2.2.2.2.2.2.2]),(1000001,.arr 118 4 es),(1000002,.arr 121 5 (EB r.2.2.2.2.2.2.2.2.2.2.1)),(1000003,.arr 134 1 (C8 r.2.2.2.2.2.2.2.2.2.2.2.1)),(1000004,.arr 134 1 (C8 r.2.2.2.2.2.2.2.2.2.2.2.2.1)),(1000005,.arr 242 4 (FC r.2.2.2.2.2.2.2.2.2.2.2.2.2))]))/\d= .agg r.1.c:=by
 refine EC func45 Bft ?_;unfold L3 at b;refine Ex [1000000] [0,10,20,30,40,50,60,70,80,90,171,181,191,102,112,120,130,140,150,160,202,212,222,230] ?_;refine FH b Aa5 λ _ b=>?_;refine FH b Aba ?_;rintro ⟨f,_,_,_⟩ b;obtain ⟨t,m,b⟩:=bE b;refine HV m [0,4,5,6,7] [4,5,6,7] (λ _=>[]) (λ q=>GF.h ({a with CP:=f.CP,CQ:=f.CQ,closed:=f.closed,Dm:=f.Dm,CZ:=f.CZ,CN:=f.CN,CR:=f.CR,C6:=f.C6,CV:=q.1,CX:=q.2.1,down:=q.2.2.1,up:=q.2.2.2})) ?_;rintro ⟨o,JR,FP,Ho⟩ _ DO Xk;rw[Tq.eq_1] at DO;refine Dd [0,0,0,0,0,0,0,0,0,0] ?_;obtain ⟨_,DO⟩ | ⟨_,DO⟩:=cK DO
 . cases kR DO;obtain ⟨⟨_,_,_,_,_⟩,n,b⟩:=bE b;refine A ?_;refine Nl (Wk.EA (id:=1000000) (j:=16) (q:=1000001) (sz:=4) (e:=118) (es:=Ei o) rfl AX rfl) ?_;(try simp only[go_sem, *,BR,BT]);refine CcD (HQ n) ?_;exact zS b
 obtain ⟨g,DO⟩:=gK DO;refine G7 g ?_;refine C4 [1000000] [0,0,0,0,0,0,2,1,2,0,0,0,3] ?_;refine Sh DO Py λ _ DO=>?_;obtain ⟨i,DO⟩:=gK DO;refine G7 i ?_;refine Ex [1000000] [0,10,20,30,40,50,60,90,100,110,120,130,71,141,82,152,160,170,180,194,204,214,224,234] ?_;obtain ⟨k,DO⟩:=gK DO;refine G7 k ?_;obtain ⟨l,DO⟩:=gK DO;refine G7 l ?_;exact AL (Xk _ _ (kI DO))
theorem Akt{a b r}(f:L3 a b=some r):
   C3 prog 45 [.ptr 1000000 0,.p (.str b)] (GF.h a) λ h d=>∃m,h=[(1000000,.box [sD (FF a.blocks),sD (Dy a.next),sD (Gy a.CT),sD (CS a.C7),iD a.cq,iD a.ca,iD a.cd,iD a.cp,sD (CS r.2.1),sD (Dy r.2.2.1),sD (Dl r.2.2.2.1),sD (CS r.2.2.2.2.1),sD (CS r.2.2.2.2.2.1),sD (Ec r.2.2.2.2.2.2.1),sD (DE r.2.2.2.2.2.2.2.1),bD r.2.2.2.2.2.2.2.2.1,sD (Ei r.2.2.2.2.2.2.2.2.2.1),rD 1000002 r.2.2.2.2.2.2.2.2.2.2.1,rD 1000003 r.2.2.2.2.2.2.2.2.2.2.2.1,rD 1000004 r.2.2.2.2.2.2.2.2.2.2.2.2.1,rD 1000005 r.2.2.2.2.2.2.2.2.2.2.2.2.2]),(1000001,.Ij (F7 (.arr 4 m))),(1000002,.arr 121 5 (EB r.2.2.2.2.2.2.2.2.2.2.1)),(1000003,.arr 134 1 (C8 r.2.2.2.2.2.2.2.2.2.2.2.1)),(1000004,.arr 134 1 (C8 r.2.2.2.2.2.2.2.2.2.2.2.2.1)),(1000005,.arr 242 4 (FC r.2.2.2.2.2.2.2.2.2.2.2.2.2))]/\d= .agg r.1.c:=by
 refine C3.wk (Afw f) ?_;rintro h d ⟨rfl | ⟨es,rfl⟩ | ⟨es,rfl⟩,rfl⟩
 . exact ⟨_,(Wk.EA (id:=1000000) (j:=16) (q:=1000001) (sz:=4) (e:=118) (es:=Ei r.2.2.2.2.2.2.2.2.2.1) rfl AX rfl).trans (Wk.Aax (q:=1000001) rfl),_,rfl,rfl⟩
 . exact ⟨_,Wk.Aax (q:=1000001) rfl,_,rfl,rfl⟩
 . exact ⟨_,Wk.Av3 (q:=1000001) rfl,_,rfl,rfl⟩
def O7(e:Int)(f:Au):Aj×Int->Option ((Aj×Int)⊕((Aj×Int)))
 | (b,a)=>cond (a<(f.length:Int)) ((CU b e).bind λ GS=>(CU f a).bind λ Jp=>(Ku GS Jp).bind λ OL=>some (.inl ((b.set e.toNat OL),(i64.wrap (a+1))))) (some (.inr (b,a)))
def D8(a:GF)(b:Int)(e:Au):Option Aj:=
 (C9 (O7 b e) (a.up,0)).bind (λ (v21,Mu)=>some v21)
theorem D7{a e f r}(b:D8 a e f=some r):
   Rq 81 [.ptr 1000000 0,iD e,sD (Et f)] (GF.h a) (GF.h ({a with up:=r})) (.Em []):=by
 refine EC func81 Aoi ?_;unfold D8 at b;obtain ⟨i,g,b⟩:=bE b;refine HV g [0,1,2] [] (λ q=>[(6,iD q.2)]) (λ q=>GF.h ({a with up:=q.1})) ?_;rintro ⟨j,k⟩ _ EO YN;rw[O7.eq_1] at EO;obtain ⟨_,EO⟩ | ⟨_,EO⟩:=cK EO
 . cases kR EO;exact zO b
 refine C4 [1000000,1000004] [0,0,0,0,0,0,0,0,0,0,0,0,0,0,0,0,0,0,2,0,4] ?_;obtain ⟨_,EO,_⟩:=jK Eo EO;obtain ⟨_,EO,_⟩:=jK Ot EO;refine Sh EO Pc λ _ EO=>?_;exact AL (YN _ _ (kI EO))
def Fa(a:GF)(b:Int)(e:Int)(f:Int):Option Ak:=
 cond (a.G6.length+1<10000000) (some (a.G6++[(⟨0,b,e,f⟩:Ety)])) none
theorem FR{b e f g r}(a:Fa b e f g=some r):
   Rq 88 [.ptr 1000000 0,iD e,iD f,iD g] (GF.h b) (GF.h ({b with G6:=r})) (.Em []):=by
 refine EC func88 Aoh ?_;unfold Fa at a;obtain ⟨i,a⟩:=gE a;refine G7 i ?_;exact zO a
def Qt(e:GF)(f:HW):Option (Aa×Ab×Ac×Aa×Aa×Ah×Ao×Bool×Aw×Az×Aj×Aj×Ak):=
 (CU e.CV f.a).bind λ g=>cond (g.cell=(-1)) (cond (f.kind=2) ((CU e.down f.a).bind λ Blv=>(K7 Blv f.b).bind λ (Bq2,Blu,Buc)=>cond Buc (some (e.CP,e.CQ,e.closed,e.Dm,e.CZ,e.CN,e.CR,e.C6,e.CV,e.CX,(e.down.set f.a.toNat Blu),e.up,e.G6)) (some (e.CP,e.CQ,e.closed,e.Dm,e.CZ,e.CN,e.CR,e.C6,e.CV,e.CX,e.down,e.up,e.G6))) (cond (f.kind=3) ((CU e.up f.a).bind λ Blw=>(K7 Blw f.b).bind λ (Bia,Bq3,Bun)=>cond Bun (cond (Bia.CY=f.a) ((LM (⟨e.blocks,e.next,e.CT,e.C7,e.cq,e.ca,e.cd,e.cp⟩:Nt) (⟨e.CP,e.CQ,e.closed,e.Dm,e.CZ,e.CN,e.CR,e.C6⟩:Lm) Bia).bind λ (UA,Bum,x285)=>(GP {e with CP:=UA.CP,CQ:=UA.CQ,closed:=UA.closed,Dm:=UA.Dm,CZ:=UA.CZ,CN:=UA.CN,CR:=UA.CR,C6:=UA.C6,up:=e.up.set f.a.toNat Bq3} Bum).bind λ (Bul,Buk,Avk,Buj,Bui)=>some (UA.CP,UA.CQ,UA.closed,UA.Dm,UA.CZ,UA.CN,UA.CR,UA.C6,Bul,Buk,Avk,Buj,Bui)) (some (e.CP,e.CQ,e.closed,e.Dm,e.CZ,e.CN,e.CR,e.C6,e.CV,e.CX,e.down,(e.up.set f.a.toNat Bq3),e.G6))) (some (e.CP,e.CQ,e.closed,e.Dm,e.CZ,e.CN,e.CR,e.C6,e.CV,e.CX,e.down,e.up,e.G6))) (cond (f.kind=4) ((CU e.down f.a).bind λ Blz=>(Kv Blz f.b).bind λ (Bly,Blx)=>cond Blx (some (e.CP,e.CQ,e.closed,e.Dm,e.CZ,e.CN,e.CR,e.C6,e.CV,e.CX,(e.down.set f.a.toNat Bly),e.up,e.G6)) (some (e.CP,e.CQ,e.closed,e.Dm,e.CZ,e.CN,e.CR,e.C6,e.CV,e.CX,e.down,e.up,e.G6))) (cond (f.kind=5) ((CU e.up f.a).bind λ Bux=>(Kv Bux f.b).bind λ (Buw,Buv)=>cond Buv (some (e.CP,e.CQ,e.closed,e.Dm,e.CZ,e.CN,e.CR,e.C6,e.CV,e.CX,e.down,(e.up.set f.a.toNat Buw),e.G6)) (some (e.CP,e.CQ,e.closed,e.Dm,e.CZ,e.CN,e.CR,e.C6,e.CV,e.CX,e.down,e.up,e.G6))) (cond (f.kind=6) ((CU e.down f.a).bind λ Bv0=>(MA Bv0 f.b).bind λ (Buz,Buy)=>cond Buy (some (e.CP,e.CQ,e.closed,e.Dm,e.CZ,e.CN,e.CR,e.C6,e.CV,e.CX,(e.down.set f.a.toNat Buz),e.up,e.G6)) (some (e.CP,e.CQ,e.closed,e.Dm,e.CZ,e.CN,e.CR,e.C6,e.CV,e.CX,e.down,e.up,e.G6))) (cond (f.kind=7) ((CU e.up f.a).bind λ Bv3=>(MA Bv3 f.b).bind λ (Bv2,Bv1)=>cond Bv1 (some (e.CP,e.CQ,e.closed,e.Dm,e.CZ,e.CN,e.CR,e.C6,e.CV,e.CX,e.down,(e.up.set f.a.toNat Bv2),e.G6)) (some (e.CP,e.CQ,e.closed,e.Dm,e.CZ,e.CN,e.CR,e.C6,e.CV,e.CX,e.down,e.up,e.G6))) (cond (f.kind=8) ((LL (⟨e.blocks,e.next,e.CT,e.C7,e.cq,e.ca,e.cd,e.cp⟩:Nt) (⟨e.CP,e.CQ,e.closed,e.Dm,e.CZ,e.CN,e.CR,e.C6⟩:Lm) f.a).bind λ (Bv9,x233)=>(GP e Bv9).bind λ (Bv8,Bv7,Bv6,Bv5,Bv4)=>some (e.CP,e.CQ,e.closed,e.Dm,e.CZ,e.CN,e.CR,e.C6,Bv8,Bv7,Bv6,Bv5,Bv4)) (cond (f.kind=9) ((CU e.CX f.a).bind λ Bm1=>(Jc (⟨e.blocks,e.next,e.CT,e.C7,e.cq,e.ca,e.cd,e.cp⟩:Nt) Bm1 f.a g).bind λ (Aa2,Yp,Avn)=>(CU (e.CV.set f.a.toNat Yp) f.a).bind λ Avm=>cond (g.E9=(-1)) (cond (Avm.E9=(-1)) ((D8 {e with CV:=e.CV.set f.a.toNat Yp,CX:=e.CX.set f.a.toNat Aa2} f.a Avn).bind λ Bva=>some (e.CP,e.CQ,e.closed,e.Dm,e.CZ,e.CN,e.CR,e.C6,(e.CV.set f.a.toNat Yp),(e.CX.set f.a.toNat Aa2),e.down,Bva,e.G6)) ((Fa {e with CV:=e.CV.set f.a.toNat Yp,CX:=e.CX.set f.a.toNat Aa2} 14 f.a Avm.E9).bind λ Bq4=>(D8 {e with CV:=e.CV.set f.a.toNat Yp,CX:=e.CX.set f.a.toNat Aa2,G6:=Bq4} f.a Avn).bind λ Bvb=>some (e.CP,e.CQ,e.closed,e.Dm,e.CZ,e.CN,e.CR,e.C6,(e.CV.set f.a.toNat Yp),(e.CX.set f.a.toNat Aa2),e.down,Bvb,Bq4))) (cond (Avm.E9=(-1)) ((Fa {e with CV:=e.CV.set f.a.toNat Yp,CX:=e.CX.set f.a.toNat Aa2} 15 f.a Avm.cell).bind λ Bib=>(D8 {e with CV:=e.CV.set f.a.toNat Yp,CX:=e.CX.set f.a.toNat Aa2,G6:=Bib} f.a Avn).bind λ Bvd=>some (e.CP,e.CQ,e.closed,e.Dm,e.CZ,e.CN,e.CR,e.C6,(e.CV.set f.a.toNat Yp),(e.CX.set f.a.toNat Aa2),e.down,Bvd,Bib)) ((D8 {e with CV:=e.CV.set f.a.toNat Yp,CX:=e.CX.set f.a.toNat Aa2} f.a Avn).bind λ Bve=>some (e.CP,e.CQ,e.closed,e.Dm,e.CZ,e.CN,e.CR,e.C6,(e.CV.set f.a.toNat Yp),(e.CX.set f.a.toNat Aa2),e.down,Bve,e.G6)))) (cond (f.kind=10) ((CU e.CX f.a).bind λ Bm3=>(N1 Bm3 f.a g).bind λ (Bbs,Bbr,Avo)=>cond (0<(Avo.length:Int)) ((Fa {e with CV:=e.CV.set f.a.toNat Bbr,CX:=e.CX.set f.a.toNat Bbs} 16 f.a g.cell).bind λ Bq5=>(D8 {e with CV:=e.CV.set f.a.toNat Bbr,CX:=e.CX.set f.a.toNat Bbs,G6:=Bq5} f.a Avo).bind λ Bvl=>some (e.CP,e.CQ,e.closed,e.Dm,e.CZ,e.CN,e.CR,e.C6,(e.CV.set f.a.toNat Bbr),(e.CX.set f.a.toNat Bbs),e.down,Bvl,Bq5)) ((D8 {e with CV:=e.CV.set f.a.toNat Bbr,CX:=e.CX.set f.a.toNat Bbs} f.a Avo).bind λ Bm2=>some (e.CP,e.CQ,e.closed,e.Dm,e.CZ,e.CN,e.CR,e.C6,(e.CV.set f.a.toNat Bbr),(e.CX.set f.a.toNat Bbs),e.down,Bm2,e.G6))) (cond (f.kind=11) (some (e.CP,e.CQ,e.closed,e.Dm,e.CZ,e.CN,e.CR,e.C6,e.CV,e.CX,e.down,e.up,e.G6)) (some (e.CP,e.CQ,e.closed,e.Dm,e.CZ,e.CN,e.CR,e.C6,e.CV,e.CX,e.down,e.up,e.G6)))))))))))) (cond (f.kind=2) ((CU e.down f.a).bind λ Bbu=>(K7 Bbu f.b).bind λ (Bmb,Px,Aqy)=>cond Aqy (cond g.H0 (some (e.CP,e.CQ,e.closed,e.Dm,e.CZ,e.CN,e.CR,e.C6,e.CV,e.CX,(e.down.set f.a.toNat Px),e.up,e.G6)) ((CU e.CX f.a).bind λ Bvy=>(P8 Bvy f.a Bmb).bind λ (Alu,Bbt)=>(D8 {e with CX:=e.CX.set f.a.toNat Alu,down:=e.down.set f.a.toNat Px} f.a Bbt).bind λ Bm9=>some (e.CP,e.CQ,e.closed,e.Dm,e.CZ,e.CN,e.CR,e.C6,e.CV,(e.CX.set f.a.toNat Alu),(e.down.set f.a.toNat Px),Bm9,e.G6))) (some (e.CP,e.CQ,e.closed,e.Dm,e.CZ,e.CN,e.CR,e.C6,e.CV,e.CX,e.down,e.up,e.G6))) (cond (f.kind=3) ((CU e.up f.a).bind λ Ar1=>(K7 Ar1 f.b).bind λ (Af4,Alw,Af3)=>cond Af3 (cond (Af4.CY=f.a) ((LM (⟨e.blocks,e.next,e.CT,e.C7,e.cq,e.ca,e.cd,e.cp⟩:Nt) (⟨e.CP,e.CQ,e.closed,e.Dm,e.CZ,e.CN,e.CR,e.C6⟩:Lm) Af4).bind λ (PZ,Bbw,Vw)=>(GP {e with CP:=PZ.CP,CQ:=PZ.CQ,closed:=PZ.closed,Dm:=PZ.Dm,CZ:=PZ.CZ,CN:=PZ.CN,CR:=PZ.CR,C6:=PZ.C6,up:=e.up.set f.a.toNat Alw} Bbw).bind λ (Avq,Avp,Ar0,Bmd,Bbv)=>some (PZ.CP,PZ.CQ,PZ.closed,PZ.Dm,PZ.CZ,PZ.CN,PZ.CR,PZ.C6,Avq,Avp,Ar0,Bmd,Bbv)) (some (e.CP,e.CQ,e.closed,e.Dm,e.CZ,e.CN,e.CR,e.C6,e.CV,e.CX,e.down,(e.up.set f.a.toNat Alw),e.G6))) (some (e.CP,e.CQ,e.closed,e.Dm,e.CZ,e.CN,e.CR,e.C6,e.CV,e.CX,e.down,e.up,e.G6))) (cond (f.kind=4) ((CU e.down f.a).bind λ Alx=>(Kv Alx f.b).bind λ (Bw2,Bic)=>cond Bic (some (e.CP,e.CQ,e.closed,e.Dm,e.CZ,e.CN,e.CR,e.C6,e.CV,e.CX,(e.down.set f.a.toNat Bw2),e.up,e.G6)) (some (e.CP,e.CQ,e.closed,e.Dm,e.CZ,e.CN,e.CR,e.C6,e.CV,e.CX,e.down,e.up,e.G6))) (cond (f.kind=5) ((CU e.up f.a).bind λ WA=>(Kv WA f.b).bind λ (Bbz,Bq9)=>cond Bq9 (some (e.CP,e.CQ,e.closed,e.Dm,e.CZ,e.CN,e.CR,e.C6,e.CV,e.CX,e.down,(e.up.set f.a.toNat Bbz),e.G6)) (some (e.CP,e.CQ,e.closed,e.Dm,e.CZ,e.CN,e.CR,e.C6,e.CV,e.CX,e.down,e.up,e.G6))) (cond (f.kind=6) ((CU e.down f.a).bind λ Af5=>(MA Af5 f.b).bind λ (Am0,Sn)=>cond Sn (some (e.CP,e.CQ,e.closed,e.Dm,e.CZ,e.CN,e.CR,e.C6,e.CV,e.CX,(e.down.set f.a.toNat Am0),e.up,e.G6)) (some (e.CP,e.CQ,e.closed,e.Dm,e.CZ,e.CN,e.CR,e.C6,e.CV,e.CX,e.down,e.up,e.G6))) (cond (f.kind=7) ((CU e.up f.a).bind λ Si=>(MA Si f.b).bind λ (R4,Ar3)=>cond Ar3 (some (e.CP,e.CQ,e.closed,e.Dm,e.CZ,e.CN,e.CR,e.C6,e.CV,e.CX,e.down,(e.up.set f.a.toNat R4),e.G6)) (some (e.CP,e.CQ,e.closed,e.Dm,e.CZ,e.CN,e.CR,e.C6,e.CV,e.CX,e.down,e.up,e.G6))) (cond (f.kind=8) ((LL (⟨e.blocks,e.next,e.CT,e.C7,e.cq,e.ca,e.cd,e.cp⟩:Nt) (⟨e.CP,e.CQ,e.closed,e.Dm,e.CZ,e.CN,e.CR,e.C6⟩:Lm) f.a).bind λ (x80,x81)=>(GP e x80).bind λ (x83,x84,x85,x86,x87)=>(CU x84 f.a).bind λ o=>(N2 o f.a g).bind λ p=>(Qs {e with CV:=x83,CX:=x84,down:=x85,up:=x86,G6:=x87} f.a p).bind λ q=>some (e.CP,e.CQ,e.closed,e.Dm,e.CZ,e.CN,e.CR,e.C6,x83,x84,x85,q,x87)) (cond (f.kind=9) ((CU e.CX f.a).bind λ Pw=>(Jc (⟨e.blocks,e.next,e.CT,e.C7,e.cq,e.ca,e.cd,e.cp⟩:Nt) Pw f.a g).bind λ (NB,Uz,UR)=>(CU (e.CV.set f.a.toNat Uz) f.a).bind λ i=>cond (g.E9=(-1)) (cond (i.E9=(-1)) ((D8 {e with CV:=e.CV.set f.a.toNat Uz,CX:=e.CX.set f.a.toNat NB} f.a UR).bind λ n=>some (e.CP,e.CQ,e.closed,e.Dm,e.CZ,e.CN,e.CR,e.C6,(e.CV.set f.a.toNat Uz),(e.CX.set f.a.toNat NB),e.down,n,e.G6)) ((Fa {e with CV:=e.CV.set f.a.toNat Uz,CX:=e.CX.set f.a.toNat NB} 14 f.a i.E9).bind λ j=>(D8 {e with CV:=e.CV.set f.a.toNat Uz,CX:=e.CX.set f.a.toNat NB,G6:=j} f.a UR).bind λ Kb=>some (e.CP,e.CQ,e.closed,e.Dm,e.CZ,e.CN,e.CR,e.C6,(e.CV.set f.a.toNat Uz),(e.CX.set f.a.toNat NB),e.down,Kb,j))) (cond (i.E9=(-1)) ((Fa {e with CV:=e.CV.set f.a.toNat Uz,CX:=e.CX.set f.a.toNat NB} 15 f.a i.cell).bind λ TY=>(D8 {e with CV:=e.CV.set f.a.toNat Uz,CX:=e.CX.set f.a.toNat NB,G6:=TY} f.a UR).bind λ m=>some (e.CP,e.CQ,e.closed,e.Dm,e.CZ,e.CN,e.CR,e.C6,(e.CV.set f.a.toNat Uz),(e.CX.set f.a.toNat NB),e.down,m,TY)) ((D8 {e with CV:=e.CV.set f.a.toNat Uz,CX:=e.CX.set f.a.toNat NB} f.a UR).bind λ l=>some (e.CP,e.CQ,e.closed,e.Dm,e.CZ,e.CN,e.CR,e.C6,(e.CV.set f.a.toNat Uz),(e.CX.set f.a.toNat NB),e.down,l,e.G6)))) (cond (f.kind=10) ((CU e.CX f.a).bind λ ON=>(N1 ON f.a g).bind λ (LG,KP,O3)=>cond (0<(O3.length:Int)) ((Fa {e with CV:=e.CV.set f.a.toNat KP,CX:=e.CX.set f.a.toNat LG} 16 f.a g.cell).bind λ Sl=>(D8 {e with CV:=e.CV.set f.a.toNat KP,CX:=e.CX.set f.a.toNat LG,G6:=Sl} f.a O3).bind λ k=>some (e.CP,e.CQ,e.closed,e.Dm,e.CZ,e.CN,e.CR,e.C6,(e.CV.set f.a.toNat KP),(e.CX.set f.a.toNat LG),e.down,k,Sl)) ((D8 {e with CV:=e.CV.set f.a.toNat KP,CX:=e.CX.set f.a.toNat LG} f.a O3).bind λ R3=>some (e.CP,e.CQ,e.closed,e.Dm,e.CZ,e.CN,e.CR,e.C6,(e.CV.set f.a.toNat KP),(e.CX.set f.a.toNat LG),e.down,R3,e.G6))) (cond (f.kind=11) (cond g.H0 (some (e.CP,e.CQ,e.closed,e.Dm,e.CZ,e.CN,e.CR,e.C6,e.CV,e.CX,e.down,e.up,e.G6)) ((NS (⟨e.blocks,e.next,e.CT,e.C7,e.cq,e.ca,e.cd,e.cp⟩:Nt) (⟨e.CP,e.CQ,e.closed,e.Dm,e.CZ,e.CN,e.CR,e.C6⟩:Lm) f.a).bind λ (HB,RO,OL)=>(GP {e with CP:=HB.CP,CQ:=HB.CQ,closed:=HB.closed,Dm:=HB.Dm,CZ:=HB.CZ,CN:=HB.CN,CR:=HB.CR,C6:=HB.C6,CV:=e.CV.set f.a.toNat {g with H0:=true}} RO).bind λ (I6,Fo,PY,Wu,G8)=>some (HB.CP,HB.CQ,HB.closed,HB.Dm,HB.CZ,HB.CN,HB.CR,HB.C6,I6,Fo,PY,Wu,G8))) (some (e.CP,e.CQ,e.closed,e.Dm,e.CZ,e.CN,e.CR,e.C6,e.CV,e.CX,e.down,e.up,e.G6))))))))))))
theorem Ao5{f k r}(b:Qt f k=some r):
   C3 prog 46 [.ptr 1000000 0,.agg k.c] (GF.h f) λ h d=>(h=(GF.h ({f with CP:=r.1,CQ:=r.2.1,closed:=r.2.2.1,Dm:=r.2.2.2.1,CZ:=r.2.2.2.2.1,CN:=r.2.2.2.2.2.1,CR:=r.2.2.2.2.2.2.1,C6:=r.2.2.2.2.2.2.2.1,CV:=r.2.2.2.2.2.2.2.2.1,CX:=r.2.2.2.2.2.2.2.2.2.1,down:=r.2.2.2.2.2.2.2.2.2.2.1,up:=r.2.2.2.2.2.2.2.2.2.2.2.1,G6:=r.2.2.2.2.2.2.2.2.2.2.2.2}))∨(∃es,h=[(1000000,.box [sD (FF f.blocks),sD (Dy f.next),sD (Gy f.CT),sD (CS f.C7),iD f.cq,iD f.ca,iD f.cd,iD f.cp,sD (CS r.1),sD (Dy r.2.1),sD (Dl r.2.2.1),sD (CS r.2.2.2.1),sD (CS r.2.2.2.2.1),sD (Ec r.2.2.2.2.2.1),sD (DE r.2.2.2.2.2.2.1),bD r.2.2.2.2.2.2.2.1,sD (Ei r.2.2.2.2.2.2.2.2.1),rD 1000002 r.2.2.2.2.2.2.2.2.2.1,rD 1000003 r.2.2.2.2.2.2.2.2.2.2.1,rD 1000004 r.2.2.2.2.2.2.2.2.2.2.2.1,rD 1000005 r.2.2.2.2.2.2.2.2.2.2.2.2]),(1000001,.Oh 4 es),(1000002,.arr 121 5 (EB r.2.2.2.2.2.2.2.2.2.1)),(1000003,.arr 134 1 (C8 r.2.2.2.2.2.2.2.2.2.2.1)),(1000004,.arr 134 1 (C8 r.2.2.2.2.2.2.2.2.2.2.2.1)),(1000005,.arr 242 4 (FC r.2.2.2.2.2.2.2.2.2.2.2.2))])∨(∃es,h=[(1000000,.box [sD (FF f.blocks),sD (Dy f.next),sD (Gy f.CT),sD (CS f.C7),iD f.cq,iD f.ca,iD f.cd,iD f.cp,sD (CS r.1),sD (Dy r.2.1),sD (Dl r.2.2.1),sD (CS r.2.2.2.1),sD (CS r.2.2.2.2.1),sD (Ec r.2.2.2.2.2.1),sD (DE r.2.2.2.2.2.2.1),bD r.2.2.2.2.2.2.2.1,sD (Ei r.2.2.2.2.2.2.2.2.1),rD 1000002 r.2.2.2.2.2.2.2.2.2.1,rD 1000003 r.2.2.2.2.2.2.2.2.2.2.1,rD 1000004 r.2.2.2.2.2.2.2.2.2.2.2.1,rD 1000005 r.2.2.2.2.2.2.2.2.2.2.2.2]),(1000001,.arr 118 4 es),(1000002,.arr 121 5 (EB r.2.2.2.2.2.2.2.2.2.1)),(1000003,.arr 134 1 (C8 r.2.2.2.2.2.2.2.2.2.2.1)),(1000004,.arr 134 1 (C8 r.2.2.2.2.2.2.2.2.2.2.2.1)),(1000005,.arr 242 4 (FC r.2.2.2.2.2.2.2.2.2.2.2.2))]))/\d= .Em []:=by
 refine EC func46 Bfs ?_;unfold Qt at b;obtain ⟨o,b,_⟩:=jE TF b;obtain ⟨_,b⟩ | ⟨_,b⟩:=cE b
 . obtain ⟨_,b⟩ | ⟨_,b⟩:=cE b
   . obtain ⟨_,b⟩ | ⟨_,b⟩:=cE b
     . obtain ⟨_,b⟩ | ⟨_,b⟩:=cE b
       . obtain ⟨_,b⟩ | ⟨_,b⟩:=cE b
         . obtain ⟨_,b⟩ | ⟨_,b⟩:=cE b
           . obtain ⟨_,b⟩ | ⟨_,b⟩:=cE b
             . obtain ⟨_,b⟩ | ⟨_,b⟩:=cE b
               . obtain ⟨_,b⟩ | ⟨_,b⟩:=cE b
                 . obtain ⟨_,b⟩ | ⟨_,b⟩:=cE b
                   . refine cS b λ _ b=>?_;obtain ⟨_,b⟩ | ⟨_,b⟩:=cE b
                     . refine C4 [1000000] [0,0,0,0,0,0,0,0,0,0,0,2,0,0,0,0,0,0,0,4,4] ?_;refine FH b Ajb ?_;rintro ⟨_,_,_⟩ b;obtain ⟨⟨_,_,_,_,_⟩,m,b⟩:=bE b;refine A ?_;refine Nl (Wk.EA (id:=1000000) (j:=16) (q:=1000001) (sz:=4) (e:=118) (es:=Ei (f.CV.set (Int.toNat k.a) ({o with H0:=true}:O2))) rfl AX rfl) ?_;(try simp only[go_sem, *,BR,BT]);have i:=HQ m;(try simp only[GF.h2,Bv] at i);refine CcD i ?_;exact zS b
                     exact zS b
                   refine C4 [5,1000000,1000001,1000002] [0,0,0,0,0,0,0,0,0,0,0,0,0,0,0,0,0,0,0,0,0,0,2,0,0,0,0,0,4,4,4,4] ?_;obtain ⟨_,b,_⟩:=jE Li b;refine FH b Abk ?_;rintro ⟨_,_,_⟩ b;obtain ⟨_,b⟩ | ⟨_,b⟩:=cE b
                   . refine Eb b D7 λ _ b=>?_;exact zS b
                   refine Eb b FR λ _ b=>?_;refine Eb b D7 λ _ b=>?_;exact zS b
                 refine C4 [5,1000000,1000001,1000002] [0,0,0,0,0,0,0,0,0,0,0,0,0,0,0,0,0,0,0,0,0,0,0,0,0,0,2,0,0,0,0,0,4,4,4,4] ?_;obtain ⟨_,b,_⟩:=jE Li b;refine FH b W6 ?_;rintro ⟨_,_,_⟩ b;obtain ⟨_,b,_,l,_⟩:=jE TF b;have _:=sl l;obtain ⟨_,b⟩ | ⟨_,b⟩:=cE b
                 . obtain ⟨_,b⟩ | ⟨_,b⟩:=cE b
                   . refine Eb b D7 λ _ b=>?_;exact zS b
                   refine Eb b FR λ _ b=>?_;refine Eb b D7 λ _ b=>?_;exact zS b
                 obtain ⟨_,b⟩ | ⟨_,b⟩:=cE b
                 . refine Eb b FR λ _ b=>?_;refine Eb b D7 λ _ b=>?_;exact zS b
                 refine Eb b D7 λ _ b=>?_;exact zS b
               refine C4 [1000000] [0,0,0,0,0,0,0,0,0,0,2,0,0,0,4] ?_;refine FH b WN ?_;rintro ⟨_,_⟩ b;obtain ⟨⟨_,_,_,_,_⟩,n,b⟩:=bE b;refine A ?_;refine Nl (Wk.EA (id:=1000000) (j:=16) (q:=1000001) (sz:=4) (e:=118) (es:=Ei f.CV) rfl AX rfl) ?_;(try simp only[go_sem, *,BR,BT]);refine CcD (HQ n) ?_;refine C4 [5,1000000,1000002] [0,0,0,0,0,0,0,0,0,0,0,0,4,3] ?_;obtain ⟨_,b,_⟩:=jE Li b;refine FH b Ajn λ _ b=>?_;refine FH b Bjt λ _ b=>?_;exact zS b
             refine Dd [0,0,0,0,0,0,0,0,0,0,2,0,0,0,0,0] ?_;obtain ⟨_,b,_⟩:=jE Eo b;refine FH b Q6 ?_;rintro ⟨_,_⟩ b;refine cS b λ _ b=>?_;exact zS b
           refine Dd [0,0,0,0,0,0,0,0,0,0,2,0,0,0,0,0] ?_;obtain ⟨_,b,_⟩:=jE Eo b;refine FH b Q6 ?_;rintro ⟨_,_⟩ b;refine cS b λ _ b=>?_;exact zS b
         refine Dd [0,0,0,0,0,0,0,0,0,0,2,0,0,0,0,0] ?_;obtain ⟨_,b,_⟩:=jE Eo b;refine FH b Pe ?_;rintro ⟨_,_⟩ b;refine cS b λ _ b=>?_;exact zS b
       refine Dd [0,0,0,0,0,0,0,0,0,0,2,0,0,0,0,0] ?_;obtain ⟨_,b,_⟩:=jE Eo b;refine FH b Pe ?_;rintro ⟨_,_⟩ b;refine cS b λ _ b=>?_;exact zS b
     refine C4 [3,1000000,1000004] [0,0,0,0,0,0,0,0,0,0,2,0,0,0,0,4,4,4] ?_;obtain ⟨_,b,_⟩:=jE Eo b;refine FH b N3 ?_;rintro ⟨_,_,_⟩ b;refine cS b λ _ b=>?_;refine cS b λ _ b=>?_;refine C4 [7,1000000] [0,0,0,0,0,0,0,0,0,0,0,2,0,0,0,0,0,0,0,4,4] ?_;refine FH b Zq ?_;rintro ⟨_,_,_⟩ b;obtain ⟨⟨_,_,_,_,_⟩,Bzt,b⟩:=bE b;refine A ?_;refine Nl (Wk.EA (id:=1000000) (j:=16) (q:=1000001) (sz:=4) (e:=118) (es:=Ei f.CV) rfl AX rfl) ?_;(try simp only[go_sem, *,BR,BT]);have Brb:=HQ Bzt;(try simp only[GF.h2,Bv] at Brb);refine CcD Brb ?_;exact zS b
   refine C4 [3,1000000,1000003] [0,0,0,0,0,0,0,0,0,0,2,0,0,0,0,4,4,4] ?_;obtain ⟨_,b,_⟩:=jE Eo b;refine FH b N3 ?_;rintro ⟨_,_,_⟩ b;refine cS b λ _ b=>?_;obtain ⟨_,b⟩ | ⟨_,b⟩:=cE b
   . refine C4 [7,1000000,1000002] [0,0,0,0,0,0,0,0,0,0,0,0,0,0,0,0,2,0,0,0,0,4,4] ?_;obtain ⟨_,b,_⟩:=jE Li b;refine FH b Amm ?_;rintro ⟨_,_⟩ b;refine Eb b D7 λ _ b=>?_;exact zS b
   exact zS b
 obtain ⟨_,b⟩ | ⟨_,b⟩:=cE b
 . obtain ⟨_,b⟩ | ⟨_,b⟩:=cE b
   . obtain ⟨_,b⟩ | ⟨_,b⟩:=cE b
     . obtain ⟨_,b⟩ | ⟨_,b⟩:=cE b
       . obtain ⟨_,b⟩ | ⟨_,b⟩:=cE b
         . obtain ⟨_,b⟩ | ⟨_,b⟩:=cE b
           . obtain ⟨_,b⟩ | ⟨_,b⟩:=cE b
             . obtain ⟨_,b⟩ | ⟨_,b⟩:=cE b
               . obtain ⟨_,b⟩ | ⟨_,b⟩:=cE b
                 . refine cS b λ _ b=>?_;exact zS b
                 refine C4 [5,1000000,1000001,1000002] [0,0,0,0,0,0,0,0,0,0,0,0,0,0,0,0,0,0,0,0,0,0,2,0,0,0,0,0,4,4,4,4] ?_;obtain ⟨_,b,_⟩:=jE Li b;refine FH b Abk ?_;rintro ⟨_,_,_⟩ b;obtain ⟨_,b⟩ | ⟨_,b⟩:=cE b
                 . refine Eb b D7 λ _ b=>?_;exact zS b
                 refine Eb b FR λ _ b=>?_;refine Eb b D7 λ _ b=>?_;exact zS b
               refine C4 [5,1000000,1000001,1000002] [0,0,0,0,0,0,0,0,0,0,0,0,0,0,0,0,0,0,0,0,0,0,0,0,0,0,2,0,0,0,0,0,4,4,4,4] ?_;obtain ⟨_,b,_⟩:=jE Li b;refine FH b W6 ?_;rintro ⟨_,_,_⟩ b;obtain ⟨_,b,_,g,_⟩:=jE TF b;have _:=sl g;obtain ⟨_,b⟩ | ⟨_,b⟩:=cE b
               . obtain ⟨_,b⟩ | ⟨_,b⟩:=cE b
                 . refine Eb b D7 λ _ b=>?_;exact zS b
                 refine Eb b FR λ _ b=>?_;refine Eb b D7 λ _ b=>?_;exact zS b
               obtain ⟨_,b⟩ | ⟨_,b⟩:=cE b
               . refine Eb b FR λ _ b=>?_;refine Eb b D7 λ _ b=>?_;exact zS b
               refine Eb b D7 λ _ b=>?_;exact zS b
             refine C4 [1000000] [0,0,0,0,0,0,0,0,0,0,2,0,0,0,4] ?_;refine FH b WN ?_;rintro ⟨_,_⟩ b;obtain ⟨⟨_,_,_,_,_⟩,Bzq,b⟩:=bE b;refine A ?_;refine Nl (Wk.EA (id:=1000000) (j:=16) (q:=1000001) (sz:=4) (e:=118) (es:=Ei f.CV) rfl AX rfl) ?_;(try simp only[go_sem, *,BR,BT]);refine CcD (HQ Bzq) ?_;exact zS b
           refine Dd [0,0,0,0,0,0,0,0,0,0,2,0,0,0,0,0] ?_;obtain ⟨_,b,_⟩:=jE Eo b;refine FH b Q6 ?_;rintro ⟨_,_⟩ b;refine cS b λ _ b=>?_;exact zS b
         refine Dd [0,0,0,0,0,0,0,0,0,0,2,0,0,0,0,0] ?_;obtain ⟨_,b,_⟩:=jE Eo b;refine FH b Q6 ?_;rintro ⟨_,_⟩ b;refine cS b λ _ b=>?_;exact zS b
       refine Dd [0,0,0,0,0,0,0,0,0,0,2,0,0,0,0,0] ?_;obtain ⟨_,b,_⟩:=jE Eo b;refine FH b Pe ?_;rintro ⟨_,_⟩ b;refine cS b λ _ b=>?_;exact zS b
     refine Dd [0,0,0,0,0,0,0,0,0,0,2,0,0,0,0,0] ?_;obtain ⟨_,b,_⟩:=jE Eo b;refine FH b Pe ?_;rintro ⟨_,_⟩ b;refine cS b λ _ b=>?_;exact zS b
   refine C4 [3,1000000,1000004] [0,0,0,0,0,0,0,0,0,0,2,0,0,0,0,4,4,4] ?_;obtain ⟨_,b,_⟩:=jE Eo b;refine FH b N3 ?_;rintro ⟨_,_,_⟩ b;refine cS b λ _ b=>?_;refine cS b λ _ b=>?_;refine C4 [7,1000000] [0,0,0,0,0,0,0,0,0,0,0,2,0,0,0,0,0,0,0,4,4] ?_;refine FH b Zq ?_;rintro ⟨_,_,_⟩ b;obtain ⟨⟨_,_,_,_,_⟩,Bzp,b⟩:=bE b;refine A ?_;refine Nl (Wk.EA (id:=1000000) (j:=16) (q:=1000001) (sz:=4) (e:=118) (es:=Ei f.CV) rfl AX rfl) ?_;(try simp only[go_sem, *,BR,BT]);have Bra:=HQ Bzp;(try simp only[GF.h2,Bv] at Bra);refine CcD Bra ?_;exact zS b
 refine C4 [3,1000000,1000003] [0,0,0,0,0,0,0,0,0,0,2,0,0,0,0,4,4,4] ?_;obtain ⟨_,b,_⟩:=jE Eo b;refine FH b N3 ?_;rintro ⟨_,_,_⟩ b;refine cS b λ _ b=>?_;exact zS b
theorem Ass{a b r}(f:Qt a b=some r):
   C3 prog 46 [.ptr 1000000 0,.agg b.c] (GF.h a) λ h d=>∃m,h=[(1000000,.box [sD (FF a.blocks),sD (Dy a.next),sD (Gy a.CT),sD (CS a.C7),iD a.cq,iD a.ca,iD a.cd,iD a.cp,sD (CS r.1),sD (Dy r.2.1),sD (Dl r.2.2.1),sD (CS r.2.2.2.1),sD (CS r.2.2.2.2.1),sD (Ec r.2.2.2.2.2.1),sD (DE r.2.2.2.2.2.2.1),bD r.2.2.2.2.2.2.2.1,sD (Ei r.2.2.2.2.2.2.2.2.1),rD 1000002 r.2.2.2.2.2.2.2.2.2.1,rD 1000003 r.2.2.2.2.2.2.2.2.2.2.1,rD 1000004 r.2.2.2.2.2.2.2.2.2.2.2.1,rD 1000005 r.2.2.2.2.2.2.2.2.2.2.2.2]),(1000001,.Ij (F7 (.arr 4 m))),(1000002,.arr 121 5 (EB r.2.2.2.2.2.2.2.2.2.1)),(1000003,.arr 134 1 (C8 r.2.2.2.2.2.2.2.2.2.2.1)),(1000004,.arr 134 1 (C8 r.2.2.2.2.2.2.2.2.2.2.2.1)),(1000005,.arr 242 4 (FC r.2.2.2.2.2.2.2.2.2.2.2.2))]/\d= .Em []:=by
 refine C3.wk (Ao5 f) ?_;rintro h d ⟨rfl | ⟨es,rfl⟩ | ⟨es,rfl⟩,rfl⟩
 . exact ⟨_,(Wk.EA (id:=1000000) (j:=16) (q:=1000001) (sz:=4) (e:=118) (es:=Ei r.2.2.2.2.2.2.2.2.1) rfl AX rfl).trans (Wk.Aax (q:=1000001) rfl),_,rfl,rfl⟩
 . exact ⟨_,Wk.Aax (q:=1000001) rfl,_,rfl,rfl⟩
 . exact ⟨_,Wk.Av3 (q:=1000001) rfl,_,rfl,rfl⟩
def IW(e:Nt)(g:O1)(f:HW):Option (O1×OM×Ak):=
 (NF g).bind λ b=>cond (f.kind=1) ((L3 (⟨e.blocks,e.next,e.CT,e.C7,e.cq,e.ca,e.cd,e.cp,b.CP,b.CQ,b.closed,b.Dm,b.CZ,b.CN,b.CR,b.C6,b.CV,b.CX,b.down,b.up,[]⟩:GF) f.text).bind λ (Uz,UR,x53,x54,x55,Vv,x57,x58,x59,x60,x61,x62,x63,TY)=>(HF e (⟨UR,x53,x54,x55,Vv,x57,x58,x59⟩:Lm)).bind λ (RN,x68,UQ)=>(GP {e with CP:=RN.CP,CQ:=RN.CQ,closed:=RN.closed,Dm:=RN.Dm,CZ:=RN.CZ,CN:=RN.CN,CR:=RN.CR,C6:=RN.C6,CV:=x60,CX:=x61,down:=x62,up:=x63,G6:=TY} x68).bind λ (x71,x72,Kb,x74,x75)=>some ((⟨RN.CP,RN.CQ,RN.closed,RN.Dm,RN.CZ,RN.CN,RN.CR,RN.C6,x71,x72,Kb,x74⟩:O1),Uz,x75)) (cond (0<=f.a) (cond (f.a<(b.CV.length:Int)) ((Qt (⟨e.blocks,e.next,e.CT,e.C7,e.cq,e.ca,e.cd,e.cp,b.CP,b.CQ,b.closed,b.Dm,b.CZ,b.CN,b.CR,b.C6,b.CV,b.CX,b.down,b.up,[]⟩:GF) f).bind λ (OP,Nn,ON,T0,O4,OK,LG,KP,O3,NC,Yi,R3,H4)=>(HF e (⟨OP,Nn,ON,T0,O4,OK,LG,KP⟩:Lm)).bind λ (KO,x42,x43)=>(GP {e with CP:=KO.CP,CQ:=KO.CQ,closed:=KO.closed,Dm:=KO.Dm,CZ:=KO.CZ,CN:=KO.CN,CR:=KO.CR,C6:=KO.C6,CV:=O3,CX:=NC,down:=Yi,up:=R3,G6:=H4} x42).bind λ (Mr,Pw,x47,x48,TZ)=>some ((⟨KO.CP,KO.CQ,KO.closed,KO.Dm,KO.CZ,KO.CN,KO.CR,KO.C6,Mr,Pw,x47,x48⟩:O1),(⟨0,0⟩:OM),TZ)) ((HF e (⟨b.CP,b.CQ,b.closed,b.Dm,b.CZ,b.CN,b.CR,b.C6⟩:Lm)).bind λ (JD,HB,RO)=>(GP {e with CP:=JD.CP,CQ:=JD.CQ,closed:=JD.closed,Dm:=JD.Dm,CZ:=JD.CZ,CN:=JD.CN,CR:=JD.CR,C6:=JD.C6,CV:=b.CV,CX:=b.CX,down:=b.down,up:=b.up,G6:=[]} HB).bind λ (Sj,I6,Fo,PY,Wu)=>some ((⟨JD.CP,JD.CQ,JD.closed,JD.Dm,JD.CZ,JD.CN,JD.CR,JD.C6,Sj,I6,Fo,PY⟩:O1),(⟨0,0⟩:OM),Wu))) ((HF e (⟨b.CP,b.CQ,b.closed,b.Dm,b.CZ,b.CN,b.CR,b.C6⟩:Lm)).bind λ (x5,x6,x7)=>(GP {e with CP:=x5.CP,CQ:=x5.CQ,closed:=x5.closed,Dm:=x5.Dm,CZ:=x5.CZ,CN:=x5.CN,CR:=x5.CR,C6:=x5.C6,CV:=b.CV,CX:=b.CX,down:=b.down,up:=b.up,G6:=[]} x6).bind λ (x9,JJ,GS,Jr,Lq)=>some ((⟨x5.CP,x5.CQ,x5.closed,x5.Dm,x5.CZ,x5.CN,x5.CR,x5.C6,x9,JJ,GS,Jr⟩:O1),(⟨0,0⟩:OM),Lq)))
theorem Ke{l b m r}(a:IW l b m=some r):
   Rq 23 [.agg l.c,.agg [sD (CS b.CP),sD (Dy b.CQ),sD (Dl b.closed),sD (CS b.Dm),sD (CS b.CZ),sD (Ec b.CN),sD (DE b.CR),bD b.C6,sD (Ei b.CV),sD (EB b.CX),sD (C8 b.down),sD (C8 b.up)],.agg m.c] [] [(0,.arr 121 5 (EB r.1.CX)),(1,.arr 134 1 (C8 r.1.down)),(2,.arr 134 1 (C8 r.1.up)),(3,.arr 242 4 (FC r.2.2))] (.Em [.agg [sD (CS r.1.CP),sD (Dy r.1.CQ),sD (Dl r.1.closed),sD (CS r.1.Dm),sD (CS r.1.CZ),sD (Ec r.1.CN),sD (DE r.1.CR),bD r.1.C6,sD (Ei r.1.CV),rD 0 r.1.CX,rD 1 r.1.down,rD 2 r.1.up],.agg r.2.1.c,rD 3 r.2.2]):=by
 refine EC func23 Bg6 ?_;unfold IW at a;refine Dd [0,0,2,0,1,0] ?_;refine FH a Aj8 λ p a=>?_;obtain ⟨_,a⟩ | ⟨_,a⟩:=cE a
 . refine Dd [0,0,0,0,0,0,0,0,0,0,0,0,0,0] ?_;obtain ⟨_,a⟩ | ⟨_,a⟩:=cE a
   . refine Ex [3,18] [0,10,20,30,40,50,111,121,62,70,80,90,100,132,142,150] ?_;refine FH a Mk ?_;rintro ⟨_,_,_⟩ a;obtain ⟨⟨_,_,_,_,_⟩,f,a⟩:=bE a;refine A ?_;refine Nl ((Wk.EA (id:=18) (j:=16) (q:=10016) (sz:=4) (e:=118) (es:=Ei p.CV) rfl AX rfl).trans (Wk.EP (id:=18) (j:=20) (q:=518020) (sz:=4) 242 rfl rfl rfl AV)) ?_;(try simp only[go_sem, *,BR,BT]);refine CcD (HQ f) ?_;refine C4 [10,18] [0,0,0,0,0,0,0,0,0,2,2,0] ?_;exact zO a
   obtain ⟨_,a⟩ | ⟨_,a⟩:=cE a
   . refine Ex [3,18] [0,10,20,30,40,50,111,121,62,70,80,90,100,132,142,150] ?_;refine FH a Mk ?_;rintro ⟨_,_,_⟩ a;obtain ⟨⟨_,_,_,_,_⟩,g,a⟩:=bE a;refine A ?_;refine Nl ((Wk.EA (id:=18) (j:=16) (q:=10016) (sz:=4) (e:=118) (es:=Ei p.CV) rfl AX rfl).trans (Wk.EP (id:=18) (j:=20) (q:=518020) (sz:=4) 242 rfl rfl rfl AV)) ?_;(try simp only[go_sem, *,BR,BT]);refine CcD (HQ g) ?_;refine C4 [10,18] [0,0,0,0,0,0,0,0,0,2,2,0] ?_;exact zO a
   obtain ⟨⟨_,_,_,_,_,_,_,_,_,_,_,_,_⟩,i,a⟩:=bE a;refine A ?_;refine Nl (Wk.EP (id:=18) (j:=20) (q:=518020) (sz:=4) 242 rfl rfl rfl AV) ?_;(try simp only[go_sem, *,BR,BT]);refine Gn (Ass i) ?_;rintro s r ⟨n,rfl,rfl⟩;refine Ex [3,18] [0,10,20,30,40,50,111,121,62,70,80,90,100,132,142,150] ?_;refine FH a Mk ?_;rintro ⟨_,_,_⟩ a;refine Eb a HQ ?_;rintro ⟨_,_,_,_,_⟩ a;refine C4 [10,18] [0,0,0,0,0,0,0,0,0,2,2,0] ?_;exact zO a
 obtain ⟨⟨_,_,_,_,_,_,_,_,_,_,_,_,_,_⟩,k,a⟩:=bE a;refine A ?_;refine Nl (Wk.EP (id:=18) (j:=20) (q:=518020) (sz:=4) 242 rfl rfl rfl AV) ?_;try simp only[go_sem, *,BR,BT]
 refine Gn (Akt k) ?_;rintro s r ⟨o,rfl,rfl⟩;refine Ex [3,18] [0,10,20,30,40,50,111,121,62,70,80,90,100,132,142,150] ?_;refine FH a Mk ?_;rintro ⟨_,_,_⟩ a;refine Eb a HQ ?_;rintro ⟨_,_,_,_,_⟩ a;refine C4 [10,18] [0,0,0,0,0,0,0,0,0,2,2,0] ?_;exact zO a
def Agg(f:Nt):Aw×Az×Aj×Aj×Int->Option ((Aw×Az×Aj×Aj×Int)⊕((Aw×Az×Aj×Aj×Int)))
 | (a,b,e,JR,FP)=>cond (FP<(f.C7.length:Int)) ((CU f.C7 FP).bind λ I6=>cond (a.length+1<10000000) (Option.bind Il λ OP=>cond (b.length+1<10000000) (cond (e.length+1<10000000) (cond (JR.length+1<10000000) (some (.inl ((a++[(⟨I6,(-1),false,false⟩:O2)]),(b++[OP]),(e++[[]]),(JR++[[]]),(i64.wrap (FP+1))))) none) none) none) none) (some (.inr (a,b,e,JR,FP)))
def SH(a:Nt):Option (O1×Int):=
 (SI a).bind λ (x1,x2)=>cond (x2=0) ((C9 (Agg a) ([],[],[],[],0)).bind (λ (v31,v32,UU,Mt,RQ)=>some ((⟨x1.CP,x1.CQ,x1.closed,x1.Dm,x1.CZ,x1.CN,x1.CR,x1.C6,v31,v32,UU,Mt⟩:O1),0))) (some ((⟨[],[],[],[],[],[],[],false,[],[],[],[]⟩:O1),x2))
theorem Ar6{e r}(a:SH e=some r):
   Rq 19 [.agg e.c] [] [] (.Em [.agg [sD (CS r.1.CP),sD (Dy r.1.CQ),sD (Dl r.1.closed),sD (CS r.1.Dm),sD (CS r.1.CZ),sD (Ec r.1.CN),sD (DE r.1.CR),bD r.1.C6,sD (Ei r.1.CV),sD (EB r.1.CX),sD (C8 r.1.down),sD (C8 r.1.up)],iD r.2]):=by
 refine EC func19 Bga ?_;unfold SH at a;refine Eb a Ar8 ?_;rintro ⟨b,_⟩ a;refine cP a λ _ a=>?_;obtain ⟨m,l,a⟩:=bE a;refine A ?_;refine E0 l (λ q=>⟨[(1,.ptr 1 0),(2,.ptr 2 0),(6,.ptr 6 0),(7,iD q.2.2.2.2)],[(1,.box e.c),(2,.box [.cl [],.cl [],.cl [],.cl [],.cl [],.cl [],.cl [],bD false,.cl [],.cl [],.cl [],.cl []]),(6,.box [sD (CS b.CP),sD (Dy b.CQ),sD (Dl b.closed),sD (CS b.Dm),sD (CS b.CZ),sD (Ec b.CN),sD (DE b.CR),bD b.C6,rD 35 q.1,rD 41 q.2.1,rD 46 q.2.2.1,rD 50 q.2.2.2.1]),(35,.arr 118 4 (Ei q.1)),(41,.arr 121 5 (EB q.2.1)),(46,.arr 134 1 (C8 q.2.2.1)),(50,.arr 134 1 (C8 q.2.2.2.1))],54⟩) ((Wk.EP (id:=6) (j:=10) (q:=46) (sz:=1) 134 rfl rfl rfl AV).trans ((Wk.EP (id:=6) (j:=11) (q:=50) (sz:=1) 134 rfl rfl rfl AV).trans ((Wk.EP (id:=6) (j:=8) (q:=35) (sz:=4) 118 rfl rfl rfl AV).trans ((Wk.EP (id:=6) (j:=9) (q:=41) (sz:=5) 121 rfl rfl rfl AV).trans Wr)))) ?_;rintro ⟨n,o,p,JR,FP⟩ _ Fw Akk;rw[Agg.eq_1] at Fw;obtain ⟨_,Fw⟩ | ⟨_,Fw⟩:=cK Fw
 . cases kR Fw;exact zP a
 refine C4 [1,6] [0,0,0,0,0,0,0,0,1,2,0,3] ?_;obtain ⟨_,Fw,_⟩:=jK Dk Fw;obtain ⟨f,Fw⟩:=gK Fw;refine G7 f ?_;refine C4 [6] [0,0,2,1,2,0,3] ?_;refine Sh Fw Py λ _ Fw=>?_;obtain ⟨g,Fw⟩:=gK Fw;refine G7 g ?_;refine Ex [6] [0,10,40,50,21,61,32,80,72,94,104,114] ?_;obtain ⟨i,Fw⟩:=gK Fw;refine G7 i ?_;obtain ⟨k,Fw⟩:=gK Fw;refine G7 k ?_;exact AL (Akk _ _ (kI Fw))
def V6(n:Int):Option Ad:=if -1000000000000000<=n/\n<=1000000000000000 then some (MR n) else none
theorem Ad5{n r}(h:V6 n=some r):C3 prog 15 [iD n] [] λ h d=>h=[]/\d= .p (.str r):=by
 unfold V6 at h;split at h
 . rename_i c;cases h;exact Bao n c.1 c.2
 . cases h
def P2(b:O1)(e:Int):Option (HW×Bool):=
 (SF b).bind λ a=>cond ((a.length:Int)=0) (some ((⟨0,0,0,[]⟩:HW),false)) (cond (¬(a.length:Int)=0) (cond ((Int.tmod e (a.length:Int))<0) ((CU a (i64.wrap ((Int.tmod e (a.length:Int))+(a.length:Int)))).bind λ I7=>(LJ b I7).bind λ (RO,OL)=>some (RO,OL)) ((CU a (Int.tmod e (a.length:Int))).bind λ f=>(LJ b f).bind λ (GS,Jr)=>some (GS,Jr))) none)
theorem Amd{b e r}(a:P2 b e=some r):
   Rq 20 [.agg [sD (CS b.CP),sD (Dy b.CQ),sD (Dl b.closed),sD (CS b.Dm),sD (CS b.CZ),sD (Ec b.CN),sD (DE b.CR),bD b.C6,sD (Ei b.CV),sD (EB b.CX),sD (C8 b.down),sD (C8 b.up)],iD e] [] [] (.Em [.agg r.1.c,bD r.2]):=by
 refine EC func20 Bg9 ?_;unfold P2 at a;refine Eb a Ar5 λ _ a=>?_;obtain ⟨_,a⟩ | ⟨_,a⟩:=cE a
 . obtain ⟨f,a⟩:=gE a;have _:=Bg f;obtain ⟨_,a⟩ | ⟨_,a⟩:=cE a
   . refine C4 [2] [0,0,0,0,0,2,0,0,2,0] ?_;obtain ⟨_,a,_⟩:=jE Apb a;refine FH a WM ?_;rintro ⟨_,_⟩ a;exact zP a
   refine C4 [2] [0,0,0,0,0,2,0,0,2,0] ?_;obtain ⟨_,a,_⟩:=jE Apb a;refine FH a WM ?_;rintro ⟨_,_⟩ a;exact zP a
 exact zP a
def DM(e:Aa)(f:Int)(a:Nt):Option (Ad×Aa×Int):=
 (Dh e f (a.CT.length:Int)).bind λ (x1,x2,x3)=>(CU a.CT x1).bind λ b=>cond b.Fq ((Dh x2 x3 3).bind λ (JJ,GS,Jr)=>cond (0<JJ) ((Dh GS Jr 2).bind λ (Jp,JD,HB)=>(CU a.CT (i64.wrap (1+Jp))).bind λ OL=>some (OL.name,JD,HB)) (some (b.name,GS,Jr))) (some (b.name,x2,x3))
theorem Ed{b e f r}(a:DM b e f=some r):
   Rq 43 [.ptr 1000000 0,.agg f.c] [(1000000,.box [sD (CS b),iD e])] [(1000000,.box [sD (CS r.2.1),iD r.2.2])] (.p (.str r.1)):=by
 refine EC func43 Bfv ?_;unfold DM at a;refine Ex [3] [0,10,20,30,40,50,91,62,70,80,103] ?_;refine FH a Dw ?_;rintro ⟨_,_,_⟩ a;obtain ⟨_,a,_⟩:=jE Ew a;refine cO a λ _ a=>?_;refine Eb a Dw ?_;rintro ⟨_,_,_⟩ a;refine cO a λ _ a=>?_;refine C4 [3] [0,0,0,2,0,0,0,3] ?_;refine FH a Dw ?_;rintro ⟨_,_,_⟩ a;obtain ⟨_,a,_⟩:=jE Ew a;exact zO a
def MG(g:Aa)(i:Int)(a:Nt):Option (Ad×Aa×Int):=
 (Dh g i (a.blocks.length:Int)).bind λ (x1,x2,x3)=>(CU a.blocks x1).bind λ b=>(Dh x2 x3 16).bind λ (x9,JJ,GS)=>cond (x9=0) ((DM JJ GS a).bind λ (Px,Aqy,Bma)=>cond ([116,97,115,107,32].length+Px.length<10000000) (cond (([116,97,115,107,32]++Px).length+[32].length<10000000) ((DM Aqy Bma a).bind λ (Aqx,Alu,Bbt)=>cond ((([116,97,115,107,32]++Px)++[32]).length+Aqx.length<10000000) (some (((([116,97,115,107,32]++Px)++[32])++Aqx),Alu,Bbt)) none) none) none) (cond (x9=1) ((DM JJ GS a).bind λ (Vw,Aj4,Avq)=>cond ([116,97,115,107,32].length+Vw.length<10000000) (cond (([116,97,115,107,32]++Vw).length+[32].length<10000000) ((DM Aj4 Avq a).bind λ (Alv,Bbu,Aqz)=>cond ((([116,97,115,107,32]++Vw)++[32]).length+Alv.length<10000000) (some (((([116,97,115,107,32]++Vw)++[32])++Alv),Bbu,Aqz)) none) none) none) (cond (x9=2) ((DM JJ GS a).bind λ (Aa3,Bmh,Ar1)=>cond ([116,97,115,107,32].length+Aa3.length<10000000) (cond (([116,97,115,107,32]++Aa3).length+[32].length<10000000) ((DM Bmh Ar1 a).bind λ (Af3,Bme,Bbx)=>cond ((([116,97,115,107,32]++Aa3)++[32]).length+Af3.length<10000000) (some (((([116,97,115,107,32]++Aa3)++[32])++Af3),Bme,Bbx)) none) none) none) (cond (x9=3) ((DM JJ GS a).bind λ (WA,Bc0,OQ)=>cond ([116,97,115,107,32].length+WA.length<10000000) (cond (([116,97,115,107,32]++WA).length+[32].length<10000000) ((DM Bc0 OQ a).bind λ (Alx,Bw3,Bq7)=>cond ((([116,97,115,107,32]++WA)++[32]).length+Alx.length<10000000) (some (((([116,97,115,107,32]++WA)++[32])++Alx),Bw3,Bq7)) none) none) none) (cond (x9=4) ((DM JJ GS a).bind λ (x99,Bc2,R4)=>cond ([116,97,115,107,32].length+x99.length<10000000) (cond (([116,97,115,107,32]++x99).length+[32].length<10000000) ((DM Bc2 R4 a).bind λ (Ar2,Bid,Am0)=>cond ((([116,97,115,107,32]++x99)++[32]).length+Ar2.length<10000000) (some (((([116,97,115,107,32]++x99)++[32])++Ar2),Bid,Am0)) none) none) none) (cond (x9=5) ((DM JJ GS a).bind λ (x85,x86,x87)=>cond ([116,97,115,107,32].length+x85.length<10000000) (cond (([116,97,115,107,32]++x85).length+[32].length<10000000) ((DM x86 x87 a).bind λ (x93,x94,x95)=>cond ((([116,97,115,107,32]++x85)++[32]).length+x93.length<10000000) (some (((([116,97,115,107,32]++x85)++[32])++x93),x94,x95)) none) none) none) (cond (x9=6) ((Dh JJ GS 6).bind λ (x77,x78,x79)=>(V6 x77).bind λ f=>cond ([99,97,110,99,101,108,32].length+f.length<10000000) (some (([99,97,110,99,101,108,32]++f),x78,x79)) none) (cond (x9=7) (cond ([99,108,111,115,101,32].length+b.name.length<10000000) (some (([99,108,111,115,101,32]++b.name),JJ,GS)) none) (cond (x9=8) ((Dh JJ GS 2).bind λ (x62,x63,TY)=>cond (x62=0) ((DM x63 TY a).bind λ (UQ,x70,x71)=>cond ([111,112,101,110,32].length+UQ.length<10000000) (some (([111,112,101,110,32]++UQ),x70,x71)) none) (cond ([111,112,101,110,32].length+b.name.length<10000000) (some (([111,112,101,110,32]++b.name),x63,TY)) none)) (cond (x9=9) ((Dh JJ GS (a.CT.length:Int)).bind λ (UR,x53,x54)=>(CU a.CT UR).bind λ Vv=>cond ([97,100,100,32].length+Vv.name.length<10000000) (some (([97,100,100,32]++Vv.name),x53,x54)) none) (cond (x9=10) ((Dh JJ GS 4).bind λ (x44,Mr,Pw)=>(V6 x44).bind λ e=>cond ([114,101,109,111,118,101,32].length+e.length<10000000) (some (([114,101,109,111,118,101,32]++e),Mr,Pw)) none) (cond (x9=11) ((Dh JJ GS 6).bind λ (Yi,R3,H4)=>(V6 Yi).bind λ Sl=>cond ([115,116,97,116,117,115,32].length+Sl.length<10000000) (some (([115,116,97,116,117,115,32]++Sl),R3,H4)) none) (cond (x9=12) (cond ([98,108,111,99,107,32].length+b.name.length<10000000) (some (([98,108,111,99,107,32]++b.name),JJ,GS)) none) (cond (x9=13) (some ([102,108,101,101,116],JJ,GS)) (cond (x9=14) (some ([113,117,101,117,101],JJ,GS)) ((DM JJ GS a).bind λ (ON,T0,O4)=>cond ([99,108,111,115,101,32].length+ON.length<10000000) (some (([99,108,111,115,101,32]++ON),T0,O4)) none)))))))))))))))
theorem VW{a0 a1 a2 r}(a:MG a0 a1 a2=some r):
   Rq 21 [.ptr 1000000 0,.agg a2.c] [(1000000,.box [sD (CS a0),iD a1])] [(1000000,.box [sD (CS r.2.1),iD r.2.2])] (.p (.str r.1)):=by
 refine EC func21 Bg8 ?_;unfold MG at a;refine C4 [3] [0,0,0,0,0,0,2,0,0,0,0] ?_;refine FH a Dw ?_;rintro ⟨_,_,_⟩ a;obtain ⟨x5,a,_⟩:=jE Av2 a;refine Eb a Dw ?_;rintro ⟨_,_,_⟩ a;obtain ⟨x,a⟩ | ⟨x,a⟩:=cE a
 . obtain ⟨y,a⟩ | ⟨y,a⟩:=cE a
   . obtain ⟨z,a⟩ | ⟨z,a⟩:=cE a
     . obtain ⟨B,a⟩ | ⟨B,a⟩:=cE a
       . obtain ⟨_,a⟩ | ⟨_,a⟩:=cE a
         . obtain ⟨_,a⟩ | ⟨_,a⟩:=cE a
           . obtain ⟨_,a⟩ | ⟨_,a⟩:=cE a
             . obtain ⟨_,a⟩ | ⟨_,a⟩:=cE a
               . obtain ⟨_,a⟩ | ⟨_,a⟩:=cE a
                 . obtain ⟨_,a⟩ | ⟨_,a⟩:=cE a
                   . obtain ⟨_,a⟩ | ⟨_,a⟩:=cE a
                     . obtain ⟨_,a⟩ | ⟨_,a⟩:=cE a
                       . obtain ⟨_,a⟩ | ⟨_,a⟩:=cE a
                         . obtain ⟨_,a⟩ | ⟨_,a⟩:=cE a
                           . obtain ⟨_,a⟩ | ⟨_,a⟩:=cE a
                             . refine Eb a Ed ?_;rintro ⟨ON,_,_⟩ a;obtain ⟨E,a⟩:=gE a;have Y:[99,108,111,115,101,32].length+ON.length<=maxLen:=by have:=Bg E;(try dsimp only at this);unfold maxLen;omega
                               have Caf:=Y;(try simp only[go_sem] at Caf);exact zO a
                             exact zO a
                           exact zO a
                         obtain ⟨H,a⟩:=gE a;have Z:[98,108,111,99,107,32].length+x5.name.length<=maxLen:=by have:=Bg H;(try dsimp only at this);unfold maxLen;omega
                         have Cad:=Z;(try simp only[go_sem] at Cad);exact zO a
                       refine Eb a Dw ?_;rintro ⟨_,_,_⟩ a;refine Eb a Ad5 λ Sl a=>?_;obtain ⟨I,a⟩:=gE a;have a3:[115,116,97,116,117,115,32].length+Sl.length<=maxLen:=by have:=Bg I;(try dsimp only at this);unfold maxLen;omega
                       have Cac:=a3;(try simp only[go_sem] at Cac);exact zO a
                     refine Eb a Dw ?_;rintro ⟨_,_,_⟩ a;refine Eb a Ad5 λ b3 a=>?_;obtain ⟨K,a⟩:=gE a;have a4:[114,101,109,111,118,101,32].length+b3.length<=maxLen:=by have:=Bg K;(try dsimp only at this);unfold maxLen;omega
                     have Cab:=a4;(try simp only[go_sem] at Cab);exact zO a
                   refine C4 [3] [0,0,0,0,0,0,2,0,0,0,0,0] ?_;refine FH a Dw ?_;rintro ⟨_,_,_⟩ a;obtain ⟨Vv,a,_⟩:=jE Ew a;obtain ⟨N,a⟩:=gE a;have a5:[97,100,100,32].length+Vv.name.length<=maxLen:=by have:=Bg N;(try dsimp only at this);unfold maxLen;omega
                   have Ca9:=a5;(try simp only[go_sem] at Ca9);exact zO a
                 refine Eb a Dw ?_;rintro ⟨_,_,_⟩ a;obtain ⟨_,a⟩ | ⟨_,a⟩:=cE a
                 . obtain ⟨Q,a⟩:=gE a;have a6:[111,112,101,110,32].length+x5.name.length<=maxLen:=by have:=Bg Q;(try dsimp only at this);unfold maxLen;omega
                   have Ca8:=a6;(try simp only[go_sem] at Ca8);exact zO a
                 refine Eb a Ed ?_;rintro ⟨UQ,_,_⟩ a;obtain ⟨R,a⟩:=gE a;have a7:[111,112,101,110,32].length+UQ.length<=maxLen:=by have:=Bg R;(try dsimp only at this);unfold maxLen;omega
                 have Ca7:=a7;(try simp only[go_sem] at Ca7);exact zO a
               obtain ⟨S,a⟩:=gE a;have a8:[99,108,111,115,101,32].length+x5.name.length<=maxLen:=by have:=Bg S;(try dsimp only at this);unfold maxLen;omega
               have Ca5:=a8;(try simp only[go_sem] at Ca5);exact zO a
             refine Eb a Dw ?_;rintro ⟨_,_,_⟩ a;refine Eb a Ad5 λ b4 a=>?_;obtain ⟨T,a⟩:=gE a;have a9:[99,97,110,99,101,108,32].length+b4.length<=maxLen:=by have:=Bg T;(try dsimp only at this);unfold maxLen;omega
             have Ca3:=a9;(try simp only[go_sem] at Ca3);exact zO a
           refine Ex [3] [0,10,50,60,22,30,40,72,80,90] ?_;refine FH a Ed ?_;rintro ⟨b,_,_⟩ a;obtain ⟨U,a⟩:=gE a;have b0:[116,97,115,107,32].length+b.length<=maxLen:=by have:=Bg U;(try dsimp only at this);unfold maxLen;omega
           have Bop:=b0;(try simp only[go_sem] at Bop);obtain ⟨V,a⟩:=gE a;have b1:([116,97,115,107,32]++b).length+[32].length<=maxLen:=by have:=Bg V;(try dsimp only at this);unfold maxLen;omega
           have Ca1:=b1;(try simp only[go_sem] at Ca1);refine FH a Ed ?_;rintro ⟨b5,_,_⟩ a;obtain ⟨W,a⟩:=gE a;have b2:(([116,97,115,107,32]++b)++[32]).length+b5.length<=maxLen:=by have:=Bg W;(try dsimp only at this);unfold maxLen;omega
           have Ca0:=b2;(try simp only[go_sem] at Ca0);exact zO a
         refine Ex [3] [0,10,50,60,22,30,40,72,80,90] ?_;refine FH a Ed ?_;rintro ⟨e,_,_⟩ a;obtain ⟨Cb6,a⟩:=gE a;have f:[116,97,115,107,32].length+e.length<=maxLen:=by have:=Bg Cb6;(try dsimp only at this);unfold maxLen;omega
         have Bt8:=f;(try simp only[go_sem] at Bt8);obtain ⟨Bp1,a⟩:=gE a;have g:([116,97,115,107,32]++e).length+[32].length<=maxLen:=by have:=Bg Bp1;(try dsimp only at this);unfold maxLen;omega
         have Bt7:=g;(try simp only[go_sem] at Bt7);refine FH a Ed ?_;rintro ⟨Ar2,_,_⟩ a;obtain ⟨Cb3,a⟩:=gE a;have i:(([116,97,115,107,32]++e)++[32]).length+Ar2.length<=maxLen:=by have:=Bg Cb3;(try dsimp only at this);unfold maxLen;omega
         have Bt5:=i;(try simp only[go_sem] at Bt5);exact zO a
       refine Ex [3] [0,10,50,60,22,30,40,72,80,90] ?_;refine FH a Ed ?_;rintro ⟨WA,_,_⟩ a;obtain ⟨Cb1,a⟩:=gE a;have j:[116,97,115,107,32].length+WA.length<=maxLen:=by have:=Bg Cb1;(try dsimp only at this);unfold maxLen;omega
       have Bt4:=j;(try simp only[go_sem] at Bt4);obtain ⟨Cb0,a⟩:=gE a;have k:([116,97,115,107,32]++WA).length+[32].length<=maxLen:=by have:=Bg Cb0;(try dsimp only at this);unfold maxLen;omega
       have Bt3:=k;(try simp only[go_sem] at Bt3);refine FH a Ed ?_;rintro ⟨Alx,_,_⟩ a;obtain ⟨Cay,a⟩:=gE a;have l:(([116,97,115,107,32]++WA)++[32]).length+Alx.length<=maxLen:=by have:=Bg Cay;(try dsimp only at this);unfold maxLen;omega
       have Bt2:=l;(try simp only[go_sem] at Bt2);exact zO a
     refine Ex [3] [0,10,50,60,22,30,40,72,80,90] ?_;refine FH a Ed ?_;rintro ⟨Aa3,_,_⟩ a;obtain ⟨Bp0,a⟩:=gE a;have m:[116,97,115,107,32].length+Aa3.length<=maxLen:=by have:=Bg Bp0;(try dsimp only at this);unfold maxLen;omega
     have Bel:=m;(try simp only[go_sem] at Bel);obtain ⟨Cax,a⟩:=gE a;have n:([116,97,115,107,32]++Aa3).length+[32].length<=maxLen:=by have:=Bg Cax;(try dsimp only at this);unfold maxLen;omega
     have Bt1:=n;(try simp only[go_sem] at Bt1);refine FH a Ed ?_;rintro ⟨Af3,_,_⟩ a;obtain ⟨Caw,a⟩:=gE a;have o:(([116,97,115,107,32]++Aa3)++[32]).length+Af3.length<=maxLen:=by have:=Bg Caw;(try dsimp only at this);unfold maxLen;omega
     have Bt0:=o;(try simp only[go_sem] at Bt0);exact zO a
   refine Ex [3] [0,10,50,60,22,30,40,72,80,90] ?_;refine FH a Ed ?_;rintro ⟨Vw,_,_⟩ a;obtain ⟨Cav,a⟩:=gE a;have q:[116,97,115,107,32].length+Vw.length<=maxLen:=by have:=Bg Cav;(try dsimp only at this);unfold maxLen;omega
   have Bsz:=q;(try simp only[go_sem] at Bsz);obtain ⟨Boz,a⟩:=gE a;have s:([116,97,115,107,32]++Vw).length+[32].length<=maxLen:=by have:=Bg Boz;(try dsimp only at this);unfold maxLen;omega
   have Bek:=s;(try simp only[go_sem] at Bek);refine FH a Ed ?_;rintro ⟨Alv,_,_⟩ a;obtain ⟨Cat,a⟩:=gE a;have t:(([116,97,115,107,32]++Vw)++[32]).length+Alv.length<=maxLen:=by have:=Bg Cat;(try dsimp only at this);unfold maxLen;omega
   have Bsx:=t;(try simp only[go_sem] at Bsx);exact zO a
 refine Ex [3] [0,10,50,60,22,30,40,72,80,90] ?_;refine FH a Ed ?_;rintro ⟨Px,_,_⟩ a;obtain ⟨Cas,a⟩:=gE a;have u:[116,97,115,107,32].length+Px.length<=maxLen:=by have:=Bg Cas;(try dsimp only at this);unfold maxLen;omega
 have Bsw:=u;try simp only[go_sem] at Bsw
 obtain ⟨Caq,a⟩:=gE a;have v:([116,97,115,107,32]++Px).length+[32].length<=maxLen:=by have:=Bg Caq;(try dsimp only at this);unfold maxLen;omega
 have Bsu:=v;try simp only[go_sem] at Bsu
 refine FH a Ed ?_;rintro ⟨Aqx,_,_⟩ a;obtain ⟨Cao,a⟩:=gE a;have w:(([116,97,115,107,32]++Px)++[32]).length+Aqx.length<=maxLen:=by have:=Bg Cao;(try dsimp only at this);unfold maxLen;omega
 have Bss:=w;try simp only[go_sem] at Bss
 exact zO a
abbrev Av:=List HW
def VV(j:Nt)(m:Int)(l:Bool)(n:Int):Av×Aa×Int×Aa×Ab×Aj×Aj×Ac×Aa×Aa×Ah×Ao×Bool×Aw×Az×Int->Option ((Av×Aa×Int×Aa×Ab×Aj×Aj×Ac×Aa×Aa×Ah×Ao×Bool×Aw×Az×Int)⊕((Av×Aa×Int×Aa×Ab×Aj×Aj×Ac×Aa×Aa×Ah×Ao×Bool×Aw×Az×Int)))
 | (a,k,Mu,O6,b,Ls,So,Zm,e,J7,f,g,i,UU,Mt,RQ)=>cond (RQ<m) (cond (n=0) ((Dh k Mu 16).bind λ (x43,x44,Mr)=>(P2 (⟨O6,b,Zm,e,J7,f,g,i,UU,Mt,Ls,So⟩:O1) x43).bind λ (x47,x48)=>(Dh x44 Mr 10).bind λ (NB,Uz,UR)=>cond (NB=0) ((MG Uz UR j).bind λ (Sn,Bc1,Alz)=>cond (a.length+1<10000000) ((IW j (⟨O6,b,Zm,e,J7,f,g,i,UU,Mt,Ls,So⟩:O1) (⟨1,0,0,Sn⟩:HW)).bind λ (OQ,Aly,Bbz)=>some (.inl ((a++[(⟨1,0,0,Sn⟩:HW)]),Bc1,Alz,OQ.CP,OQ.CQ,OQ.down,OQ.up,OQ.closed,OQ.Dm,OQ.CZ,OQ.CN,OQ.CR,OQ.C6,OQ.CV,OQ.CX,(i64.wrap (RQ+1))))) none) (cond (RQ<2) ((MG Uz UR j).bind λ (R4,Ar3,Bmk)=>cond (a.length+1<10000000) ((IW j (⟨O6,b,Zm,e,J7,f,g,i,UU,Mt,Ls,So⟩:O1) (⟨1,0,0,R4⟩:HW)).bind λ (NL,Ar2,Bid)=>some (.inl ((a++[(⟨1,0,0,R4⟩:HW)]),Ar3,Bmk,NL.CP,NL.CQ,NL.down,NL.up,NL.closed,NL.Dm,NL.CZ,NL.CN,NL.CR,NL.C6,NL.CV,NL.CX,(i64.wrap (RQ+1))))) none) (cond x48 (cond (NB<3) ((Jg Uz UR (⟨O6,b,Zm,e,J7,f,g,i,UU,Mt,Ls,So⟩:O1) l).bind λ (x92,x93,x94)=>cond (a.length+1<10000000) ((IW j (⟨O6,b,Zm,e,J7,f,g,i,UU,Mt,Ls,So⟩:O1) x92).bind λ (Si,x98,x99)=>some (.inl ((a++[x92]),x93,x94,Si.CP,Si.CQ,Si.down,Si.up,Si.closed,Si.Dm,Si.CZ,Si.CN,Si.CR,Si.C6,Si.CV,Si.CX,(i64.wrap (RQ+1))))) none) (cond (a.length+1<10000000) ((IW j (⟨O6,b,Zm,e,J7,f,g,i,UU,Mt,Ls,So⟩:O1) x47).bind λ (x88,x89,x90)=>some (.inl ((a++[x47]),Uz,UR,x88.CP,x88.CQ,x88.down,x88.up,x88.closed,x88.Dm,x88.CZ,x88.CN,x88.CR,x88.C6,x88.CV,x88.CX,(i64.wrap (RQ+1))))) none)) (cond (NB<6) ((MG Uz UR j).bind λ (x77,x78,x79)=>cond (a.length+1<10000000) ((IW j (⟨O6,b,Zm,e,J7,f,g,i,UU,Mt,Ls,So⟩:O1) (⟨1,0,0,x77⟩:HW)).bind λ (Zk,x83,x84)=>some (.inl ((a++[(⟨1,0,0,x77⟩:HW)]),x78,x79,Zk.CP,Zk.CQ,Zk.down,Zk.up,Zk.closed,Zk.Dm,Zk.CZ,Zk.CN,Zk.CR,Zk.C6,Zk.CV,Zk.CX,(i64.wrap (RQ+1))))) none) (cond (NB<3) ((Jg Uz UR (⟨O6,b,Zm,e,J7,f,g,i,UU,Mt,Ls,So⟩:O1) l).bind λ (x68,UQ,x70)=>cond (a.length+1<10000000) ((IW j (⟨O6,b,Zm,e,J7,f,g,i,UU,Mt,Ls,So⟩:O1) x68).bind λ (Kb,x74,x75)=>some (.inl ((a++[x68]),UQ,x70,Kb.CP,Kb.CQ,Kb.down,Kb.up,Kb.closed,Kb.Dm,Kb.CZ,Kb.CN,Kb.CR,Kb.C6,Kb.CV,Kb.CX,(i64.wrap (RQ+1))))) none) ((Jg Uz UR (⟨O6,b,Zm,e,J7,f,g,i,UU,Mt,Ls,So⟩:O1) l).bind λ (x59,x60,x61)=>cond (a.length+1<10000000) ((IW j (⟨O6,b,Zm,e,J7,f,g,i,UU,Mt,Ls,So⟩:O1) x59).bind λ (TY,x65,x66)=>some (.inl ((a++[x59]),x60,x61,TY.CP,TY.CQ,TY.down,TY.up,TY.closed,TY.Dm,TY.CZ,TY.CN,TY.CR,TY.C6,TY.CV,TY.CX,(i64.wrap (RQ+1))))) none)))))) (some (.inr (a,k,Mu,O6,b,Ls,So,Zm,e,J7,f,g,i,UU,Mt,RQ)))) (some (.inr (a,k,Mu,O6,b,Ls,So,Zm,e,J7,f,g,i,UU,Mt,RQ)))
def Qf(b:Aa)(e:Int)(a:Nt)(f:Int)(g:Bool):Option (Av×Aa×Int):=
 (SH a).bind λ (x1,x2)=>(C9 (VV a f g x2) ([],b,e,x1.CP,x1.CQ,x1.down,x1.up,x1.closed,x1.Dm,x1.CZ,x1.CN,x1.CR,x1.C6,x1.CV,x1.CX,0)).bind (λ (Bn3,Bn2,Bn1,Bqj,Bqi,v124,Bn0,Bqh,v127,Bqg,Bmz,v130,v131,Bx1,Bih,v134)=>some (Bn3,Bn2,Bn1))
theorem Ank{s u f g i r}(a:Qf s u f g i=some r):
   Rq 8 [.ptr 1000000 0,.agg f.c,iD g,bD i] [(1000000,.box [sD (CS s),iD u])] [(1000000,.box [sD (CS r.2.1),iD r.2.2])] (sD (GI r.1)):=by
 refine EC func8 Bjz ?_;unfold Qf at a;refine Eb a Ar6 ?_;rintro ⟨_,I⟩ a;obtain ⟨v,p,a⟩:=bE a;refine A ?_;refine E0 p (λ q=>⟨[(0,.ptr 1000000 0),(2,iD g),(3,bD i),(5,.ptr 5 0),(9,.ptr 9 0),(10,iD I),(11,rD 72 q.1),(12,iD q.2.2.2.2.2.2.2.2.2.2.2.2.2.2.2)],[(5,.box f.c),(9,.box [sD (CS q.2.2.2.1),sD (Dy q.2.2.2.2.1),sD (Dl q.2.2.2.2.2.2.2.1),sD (CS q.2.2.2.2.2.2.2.2.1),sD (CS q.2.2.2.2.2.2.2.2.2.1),sD (Ec q.2.2.2.2.2.2.2.2.2.2.1),sD (DE q.2.2.2.2.2.2.2.2.2.2.2.1),bD q.2.2.2.2.2.2.2.2.2.2.2.2.1,sD (Ei q.2.2.2.2.2.2.2.2.2.2.2.2.2.1),sD (EB q.2.2.2.2.2.2.2.2.2.2.2.2.2.2.1),sD (C8 q.2.2.2.2.2.1),sD (C8 q.2.2.2.2.2.2.1)]),(72,.arr 49 4 (GI q.1)),(1000000,.box [sD (CS q.2.1),iD q.2.2.1])],82⟩) ((Wk.nil (t:=11) (q:=72) (sz:=4) 49 rfl rfl AV).trans Wr) ?_;rintro ⟨w,x,Mu,O6,y,Ls,So,Zm,z,J7,B,E,H,UU,Mt,RQ⟩ _ D6 Aae;rw[VV.eq_1] at D6;obtain ⟨_,D6⟩ | ⟨_,D6⟩:=cK D6
 . cases kR D6;exact zP a
 obtain ⟨_,D6⟩ | ⟨_,D6⟩:=cK D6
 . cases kR D6;exact zP a
 refine Ex [9] [0,10,71,22,32,40,50,60,82,90] ?_;refine Sh D6 Dw ?_;rintro ⟨_,_,_⟩ D6;refine Sh D6 Amd ?_;rintro ⟨_,_⟩ D6;refine FI D6 Dw ?_;rintro ⟨_,_,_⟩ D6;obtain ⟨_,D6⟩ | ⟨_,D6⟩:=cK D6
 . obtain ⟨_,D6⟩ | ⟨_,D6⟩:=cK D6
   . obtain ⟨_,D6⟩ | ⟨_,D6⟩:=cK D6
     . obtain ⟨_,D6⟩ | ⟨_,D6⟩:=cK D6
       . obtain ⟨_,D6⟩ | ⟨_,D6⟩:=cK D6
         . refine FI D6 Rl ?_;rintro ⟨_,_,_⟩ D6;obtain ⟨k,D6⟩:=gK D6;refine G7 k ?_;refine FI D6 Ke ?_;rintro ⟨TY,_,_⟩ D6;refine A ?_;exact Aae _ _ (kI D6) ((Wk.EA (id:=9) (j:=10) (q:=20077) (sz:=1) (e:=134) (es:=C8 TY.down) rfl AX rfl).trans ((Wk.EA (id:=9) (j:=11) (q:=30077) (sz:=1) (e:=134) (es:=C8 TY.up) rfl AX rfl).trans ((Wk.EA (id:=9) (j:=9) (q:=10077) (sz:=5) (e:=121) (es:=EB TY.CX) rfl AX rfl).trans Wr)))
         refine FI D6 Rl ?_;rintro ⟨_,_,_⟩ D6;obtain ⟨l,D6⟩:=gK D6;refine G7 l ?_;refine FI D6 Ke ?_;rintro ⟨Kb,_,_⟩ D6;refine A ?_;exact Aae _ _ (kI D6) ((Wk.EA (id:=9) (j:=10) (q:=20077) (sz:=1) (e:=134) (es:=C8 Kb.down) rfl AX rfl).trans ((Wk.EA (id:=9) (j:=11) (q:=30077) (sz:=1) (e:=134) (es:=C8 Kb.up) rfl AX rfl).trans ((Wk.EA (id:=9) (j:=9) (q:=10077) (sz:=5) (e:=121) (es:=EB Kb.CX) rfl AX rfl).trans Wr)))
       refine FI D6 VW ?_;rintro ⟨_,_,_⟩ D6;obtain ⟨m,D6⟩:=gK D6;refine G7 m ?_;refine FI D6 Ke ?_;rintro ⟨Zk,_,_⟩ D6;refine A ?_;exact Aae _ _ (kI D6) ((Wk.EA (id:=9) (j:=10) (q:=20077) (sz:=1) (e:=134) (es:=C8 Zk.down) rfl AX rfl).trans ((Wk.EA (id:=9) (j:=11) (q:=30077) (sz:=1) (e:=134) (es:=C8 Zk.up) rfl AX rfl).trans ((Wk.EA (id:=9) (j:=9) (q:=10077) (sz:=5) (e:=121) (es:=EB Zk.CX) rfl AX rfl).trans Wr)))
     obtain ⟨_,D6⟩ | ⟨_,D6⟩:=cK D6
     . obtain ⟨n,D6⟩:=gK D6;refine G7 n ?_;refine FI D6 Ke ?_;rintro ⟨b,_,_⟩ D6;refine A ?_;exact Aae _ _ (kI D6) ((Wk.EA (id:=9) (j:=10) (q:=20077) (sz:=1) (e:=134) (es:=C8 b.down) rfl AX rfl).trans ((Wk.EA (id:=9) (j:=11) (q:=30077) (sz:=1) (e:=134) (es:=C8 b.up) rfl AX rfl).trans ((Wk.EA (id:=9) (j:=9) (q:=10077) (sz:=5) (e:=121) (es:=EB b.CX) rfl AX rfl).trans Wr)))
     refine FI D6 Rl ?_;rintro ⟨_,_,_⟩ D6;obtain ⟨o,D6⟩:=gK D6;refine G7 o ?_;refine FI D6 Ke ?_;rintro ⟨Si,_,_⟩ D6;refine A ?_;exact Aae _ _ (kI D6) ((Wk.EA (id:=9) (j:=10) (q:=20077) (sz:=1) (e:=134) (es:=C8 Si.down) rfl AX rfl).trans ((Wk.EA (id:=9) (j:=11) (q:=30077) (sz:=1) (e:=134) (es:=C8 Si.up) rfl AX rfl).trans ((Wk.EA (id:=9) (j:=9) (q:=10077) (sz:=5) (e:=121) (es:=EB Si.CX) rfl AX rfl).trans Wr)))
   refine FI D6 VW ?_;rintro ⟨_,_,_⟩ D6;obtain ⟨Bp1,D6⟩:=gK D6;refine G7 Bp1 ?_;refine FI D6 Ke ?_;rintro ⟨NL,_,_⟩ D6;refine A ?_;exact Aae _ _ (kI D6) ((Wk.EA (id:=9) (j:=10) (q:=20077) (sz:=1) (e:=134) (es:=C8 NL.down) rfl AX rfl).trans ((Wk.EA (id:=9) (j:=11) (q:=30077) (sz:=1) (e:=134) (es:=C8 NL.up) rfl AX rfl).trans ((Wk.EA (id:=9) (j:=9) (q:=10077) (sz:=5) (e:=121) (es:=EB NL.CX) rfl AX rfl).trans Wr)))
 refine FI D6 VW ?_;rintro ⟨_,_,_⟩ D6;obtain ⟨Cb2,D6⟩:=gK D6;refine G7 Cb2 ?_;refine FI D6 Ke ?_;rintro ⟨OQ,_,_⟩ D6;refine A ?_;exact Aae _ _ (kI D6) ((Wk.EA (id:=9) (j:=10) (q:=20077) (sz:=1) (e:=134) (es:=C8 OQ.down) rfl AX rfl).trans ((Wk.EA (id:=9) (j:=11) (q:=30077) (sz:=1) (e:=134) (es:=C8 OQ.up) rfl AX rfl).trans ((Wk.EA (id:=9) (j:=9) (q:=10077) (sz:=5) (e:=121) (es:=EB OQ.CX) rfl AX rfl).trans Wr)))
end Go.Am
end
noncomputable section
namespace Go.Am
open Go
open Go Go.Proofs
open Go.IntKind (i64)
open Tryz
set_option maxRecDepth 100000
set_option linter.unusedVariables false
set_option linter.unusedSimpArgs false
set_option maxHeartbeats 2000000
theorem Bgo(x)(h0:0<=x)(h:x<10):MR x=[UInt8.ofNat (48+x.toNat)]:=by
 unfold MR;rw[if_neg AQ,Hi x.toNat AQ]
def DU{α:Type}(x:Option α)(Q:α->Prop):Prop:=∃a,x=some a/\Q a
theorem tS{α:Type}{a}{Q:α->Prop}(h:Q a):DU (some a) Q:=⟨a,rfl,h⟩
theorem tB{α β:Type}{x}{f}{P:α->Prop}{Q:β->Prop}(h:DU x P)(k:∀a,P a->DU (f a) Q):DU (Option.bind x f) Q:=by
 obtain ⟨a,rfl,b⟩:=h;exact k a b
theorem tW{α:Type}{x}{P Q:α->Prop}(h:DU x P)(k:∀a,P a->Q a):DU x Q:=by
 obtain ⟨a,rfl,b⟩:=h;exact ⟨a,rfl,k a b⟩
theorem tC{α:Type}{c}{a b}{Q:α->Prop}(e:c=true->DU a Q)(h2:c=false->DU b Q):DU (cond c a b) Q:=by
 cases c
 . exact h2 rfl
 . exact e rfl
theorem tD{α:Type}{p:Prop}[Decidable p]{a b}{Q:α->Prop}(e:p->DU a Q)(h2:¬p->DU b Q):DU (cond (decide p) a b) Q:=by
 by_cases h:p
 . simp only[h,decide_true,Bm];exact e h
 . simp only[h,decide_false,Bl];exact h2 h
theorem tG{α:Type}{p:Prop}[Decidable p]{a}{Q:α->Prop}(h:p)(k:p->DU a Q):DU (cond (decide p) a none) Q:=by
 simp only[h,decide_true,Bm];exact k h
theorem tI{α β:Type}{l}{i:Int}{f:α->Option β}{Q:β->Prop}(h:0<=i/\i<(l.length:Int))(k:∀x,l[i.toNat]?=some x->x∈l->DU (f x) Q):DU (Option.bind (CU l i) f) Q:=by
 have a:i.toNat<l.length:=AQ;have h2:CU l i=some l[i.toNat]:=by unfold CU;rw[if_pos h.1];simp[a]
 rw[h2];exact k _ (by simp[a]) (Cm a)
theorem tA{α β:Type}{n}{l:List α}{i:Int}{f:α->Option β}{Q:β->Prop}(a:l.length=n)(h:0<=i/\i<(n:Int))(k:∀x,l[i.toNat]?=some x->x∈l->DU (f x) Q):DU (Option.bind (Acx n l i) f) Q:=by
 unfold Acx;rw[if_pos a];exact tI AQ k
theorem tL{σ ε:Type}{step}{a}{Q:ε->Prop}(I:σ->Prop)(μ:σ->Nat)(h0:I a)
   (i:∀s,I s->DU (step s) (λ y=>match y with | .inl b=>I b/\μ b<μ s | .inr e=>Q e)):DU (C9 step a) Q:=by
 obtain ⟨e,f,h2⟩:=Awo I μ Q (λ s h=>by
   obtain ⟨y,j,g⟩:=i s h;exact ⟨y,j,g⟩) a h0
 exact ⟨e,f,h2⟩
theorem C2{n}(a:-9223372036854775808<=n)(h2:n<9223372036854775808):i64.wrap n=n:=by
 unfold IntKind.wrap;simp[IntKind.bits,IntKind.signed];omega
theorem EM{α:Type}{P:α->Prop}{l:List α}{i}{v}(h:∀x∈l,P x)(b:P v):∀x∈l.set i v,P x:=by
 intro x hx;rcases List.mem_or_eq_of_mem_set hx with a | a
 . exact h x a
 . rw[a];exact b
theorem Es{α:Type}{P:α->Prop}{l}{v}(h:∀x∈l,P x)(b:P v):∀x∈l++[v],P x:=by
 intro x hx;rcases BC.1 hx with a | a
 . exact h x a
 . rw[BF.1 a];exact b
theorem all_nil{α:Type}{P:α->Prop}:∀x∈([]:List α),P x:=by intro x hx;cases hx
theorem NA{α:Type}{P:α->Prop}{v}(a:P v):∀x∈[v],P x:=by intro x hx;rw[BF.1 hx];exact a
theorem Pu{α:Type}{P:α->Prop}{l m:List α}(h:∀x∈l,P x)(b:∀x∈m,P x):∀x∈l++m,P x:=by
 intro x hx;rcases BC.1 hx with a | a
 . exact h x a
 . exact b x a
theorem Aqn{α:Type}{P:α->Prop}{l:List α}{n}(h:∀x∈l,P x):∀x∈l.take n,P x:=λ x hx=>h x (CB hx)
theorem Aqo{α:Type}{P:α->Prop}{l:List α}{n}(h:∀x∈l,P x):∀x∈l.drop n,P x:=λ x hx=>h x (List.mem_of_mem_drop hx)
theorem Fh{α:Type}{l:List α}{i}{x}(h:l[i]?=some x):i<l.length:=(Bn.1 h).1
theorem Gx{α:Type}{l:List α}{i}{x}(h:l[i]?=some x):l.take (i+1)=l.take i++[x]:=by rw[List.take_add_one,h];rfl
theorem EZ{α:Type}{l}{i:Nat}{x:α}(h:l[i]?=some x):CU l (i:Int)=some x:=by rw[Bdh,h]
theorem Ak9{i}(h:0<=i):∃k:Nat,i=(k:Int):=⟨i.toNat,AQ⟩
theorem Aw3{α β ε:Type}{step}{Q:ε->Prop}(l:List α)(g:α->List β)
   (b:∀(i:Nat) x,l[i]?=some x->step ((l.take i).flatMap g,(i:Int))=some (.inl ((l.take i).flatMap g++g x,(i:Int)+1))) (a:DU (step (l.flatMap g,(l.length:Int))) (λ y=>match y with | .inl _=>False | .inr e=>Q e)):DU (C9 step ([],0)) Q:=by
 refine tL (λ s=>∃i:Nat,i<=l.length/\s=((l.take i).flatMap g,(i:Int))) (λ s=>l.length - s.2.toNat) ⟨0,AQ,AT⟩ ?_;rintro s ⟨i,f,rfl⟩;by_cases h:i<l.length
 . have hx:l[i]?=some l[i]:=by simp[h]
   rw[b i _ hx];refine tS ?_;refine ⟨⟨i+1,h,?_⟩,?_⟩
   . rw[Gx hx,List.flatMap_append];simp
   . omega
 . obtain rfl:i=l.length:=AQ;rw[BH];exact tW a (by rintro (_ | e) h;exact h.elim;exact h)
theorem To{α β:Type}(l:List α)(f:α->β):l.flatMap (λ x=>[f x])=l.map f:=by induction l<;>simp_all
theorem Aob{α:Type}(l:List α):l.flatMap (λ x=>[x])=l:=by induction l<;>simp_all
theorem Tp{α:Type}(l:List α)(p:α->Bool):l.flatMap (λ x=>if p x then [x] else [])=l.filter p:=by
 induction l with
 | nil=>rfl
 | cons a l b=>simp only[List.flatMap_cons,Co,b];split<;>simp
theorem Asu{α β:Type}(l:List α)(g:α->List β)(h:∀x,(g x).length<=1):(l.flatMap g).length<=l.length:=by
 induction l with
 | nil=>simp
 | cons a l b=>simp only[List.flatMap_cons,Bw,Br];have:=h a;omega
theorem Ka{α β:Type}(l:List α)(i)(g:α->List β)(h:∀x,(g x).length<=1):((l.take i).flatMap g).length<=l.length:=by
 have a:=Asu (l.take i) g h;simp only[BK] at a;omega
theorem Nd{ε α:Type}{step}{Q:ε->Prop}(l:List α)(P:Nat->Prop)(h0:P 0)
   (g:∀(i:Nat) x,l[i]?=some x->x∈l->P i->i<l.length->DU (step (i:Int)) (λ y=>match y with | .inl j=>j=(i:Int)+1/\P (i+1) | .inr e=>Q e))
   (f:P l.length->DU (step (l.length:Int)) (λ y=>match y with | .inl _=>False | .inr e=>Q e)):DU (C9 step 0) Q:=by
 refine tL (λ s=>∃i:Nat,i<=l.length/\s=(i:Int)/\P i) (λ s=>l.length - s.toNat) ⟨0,AQ,rfl,h0⟩ ?_;rintro s ⟨i,k,rfl,b⟩;by_cases h:i<l.length
 . have hx:l[i]?=some l[i]:=by simp[h]
   refine tW (g i _ hx (Cm h) b h) ?_;rintro (j | e) a
   . obtain ⟨rfl,a⟩:=a;exact ⟨⟨i+1,h,AT,a⟩,by simp only[Be];omega⟩
   . exact a
 . obtain rfl:i=l.length:=AQ;exact tW (f b) (by rintro (_ | e) h;exact h.elim;exact h)
theorem Mj(a0)(a1)(g:a0.length<=10000000):DU (HE a0 a1) (λ r=>r=decide (a1∈a0)):=by
 unfold HE;refine tB (Nd (Q:=λ e=>match e with | .inl _=>a1∉a0 | .inr r=>r=true/\a1∈a0) a0 (λ i=>∀x∈a0.take i,x≠a1) AT ?_ ?_) ?_
 . intro i x hx b a f;refine tD (λ _=>?_) (λ h=>AQ);rw[EZ hx,Bd];refine tD (λ e=>tS ⟨rfl,e ▸ b⟩) (λ e=>tS ⟨C2 AQ AQ,?_⟩);rw[Gx hx];exact Es a e
 . intro a;refine tD (λ h=>AQ) (λ _=>tS ?_);rw[BH] at a;exact λ b=>a _ b rfl
 . rintro (v | r) h
   . exact tS (by simp[h])
   . exact tS (by obtain ⟨rfl,h⟩:=h;simp[h])
theorem Mz(a0)(a1)(b:a0.closed.length<=1000)(h2:a0.Dm.length<=1000)(f:a0.CZ.length<=1000):DU (Jw a0 a1) (λ r=>r=⟨a0.closed,a0.Dm,a0.CZ.filter (· != a1)⟩):=by
 unfold Jw;refine tG AQ λ _=>tG AQ λ _=>tB (Aw3 (Q:=λ e=>e.1=a0.CZ.filter (· != a1)) a0.CZ (λ x=>if x != a1 then [x] else []) ?_ ?_) ?_
 . intro i x hx;have:=Fh hx;have a:i64.wrap ((i:Int)+1)=(i:Int)+1:=C2 AQ AQ;have hb:=Ka a0.CZ i (λ x=>if x != a1 then [x] else []) (by intro x;split<;>simp);rw[Q2.eq_1,EZ hx,a,Bi (by omega:(i:Int)<((a0.CZ.length:Nat):Int)),Bm,Bd];by_cases e:x=a1
   . simp[e]
   . rw[Bj e,Bl,Bi AQ,Bm];simp[e]
 . rw[Q2.eq_1,Bj AQ,Bl];exact tS (Tp _ _)
 . rintro ⟨v,i⟩ h;exact tS (by rw[<-h])
structure SG(C B:Nat)(s:Mc):Prop where
 cl:s.closed.length=C
 bl:s.Dm.length=C
 pn:s.CZ.Nodup
 pr:∀x∈s.CZ,0<=x/\x<(B:Int)
 pl:s.CZ.length<=B
 bc:B<=C
 b24:B<=24
 OZ:C<=48
theorem SG.filter{C B}{s}(h:SG C B s)(p:Int->Bool)(c)(b)(a:c.length=C)(hb:b.length=C):SG C B ⟨c,b,s.CZ.filter p⟩:=
 ⟨a,hb,h.pn.sublist (List.filter_sublist),λ x hx=>h.pr x ((List.mem_filter.1 hx).1),by have:=List.length_filter_le p s.CZ;have:=h.pl;simp only[];omega,h.bc,h.b24,h.OZ⟩
theorem Bc{p:Prop}(h:p:=by simp only[];omega):p:=h
theorem Q1{C B}(a0)(a1 a2)(h:SG C B a0)(a:0<=a1/\a1<(C:Int)):DU (Kg a0 a1 a2) (λ r=>SG C B r/\r.CZ=a0.CZ.filter (· != a1)):=by
 have:=h.cl;have:=h.bl;have:=h.pl;have:=h.b24;have:=h.OZ
 unfold Kg;refine tB (Mz a0 a1 AQ AQ AQ) ?_;rintro x rfl;refine tI Bc λ x _ _=>tC (λ _=>tS ⟨h.filter _ _ _ h.cl h.bl,rfl⟩) (λ _=>tI Bc λ _ _ _=>tS ⟨h.filter _ _ _ ?_ ?_,rfl⟩)
 . simpa using h.cl
 . simpa using h.bl
theorem Ajh{C B}(a0)(a1)(h:SG C B a0)(a:0<=a1/\a1<(C:Int)):DU (NV a0 a1) (λ r=>SG C B r):=by
 have:=h.cl;have:=h.bl;have:=h.pl;have:=h.b24;have:=h.OZ
 unfold NV;refine tB (Mz a0 a1 AQ AQ AQ) ?_;rintro x rfl;refine tI Bc λ x _ _=>(tI Bc λ _ _ _=>tS (h.filter _ _ _ ?_ ?_))
 . simpa using h.cl
 . simpa using h.bl
theorem GV{C B}(a0)(h:SG C B a0):DU (EV a0) (λ r=>r.length=C):=by
 have:=h.cl;have:=h.pl;have:=h.OZ;have:=h.bc
 unfold EV;refine tG AQ λ _=>tB (tL (Q:=λ e=>e.1.length=C) (λ s=>s.1.length=C/\0<=s.2/\s.2<=a0.CZ.length) (λ s=>(a0.CZ.length - s.2).toNat) ⟨h.cl,AQ,AQ⟩ ?_) ?_
 . rintro ⟨v,i⟩ ⟨a,h2,b⟩;simp only[] at a h2 b;refine tD (λ _=>tI AQ λ x hx f=>?_) (λ _=>tS a);have:=h.pr x f;refine tI AQ λ _ _ _=>tS ?_;rw[C2 AQ AQ];simp only[Bv];omega
 . rintro ⟨v,i⟩ h;exact tS h
def cf(o:Ac):Nat:=o.count false
theorem Bh1{o}{i}(h:o[i]?=some false):cf (o.set i true)+1=cf o:=by
 have a:=Fh h;have h2:o[i]=false:=by rw[Bp a] at h;exact Bf h
 have b:0<o.count false:=List.count_pos_iff.2 (h2 ▸ Cm a);unfold cf;rw[List.count_set a,h2];simp;omega
theorem Bte(o):cf o<=o.length:=List.count_le_length
structure GW(n:Nat)(g:Ab):Prop where
 gl:g.length=n
 gr:∀row∈g,row.length<=24/\∀x∈row,0<=x/\x<(n:Int)
 g24:n<=24
theorem AR{p:Prop}(h:p:=by (try dsimp only at*);omega):p:=h
theorem AU{p:Prop}(h:p:=by (try dsimp only at*);(try simp only[List.length_set,List.length_append,List.length_cons,List.length_nil,List.length_replicate,List.length_take,List.length_drop,List.length_map] at*);omega):p:=h
theorem Re{n}(a0)(a1)(a2)(h:GW n a0)(R:a1.length=n)(h2:0<=a2/\a2<(n:Int)):DU (MB a0 a1 a2) (λ r=>r.length=n):=by
 have v:=h.g24;have z:=h.gl
 unfold MB;refine tG AQ λ _=>tI AQ λ s _ _=>tC (λ _=>tS (by simp[h.gl])) (λ _=>tI AW λ m B _=>?_);have g:(List.replicate a0.length false)[a2.toNat]?=some false:=by rw[CD];simp;omega
 refine tL (λ s=>s.1.length+cf s.2<=n/\s.2.length=n/\∀x∈s.1,0<=x/\x<(n:Int)) (λ s=>s.1.length+cf s.2) ⟨?_,by simp[h.gl],NA h2⟩ ?_
 . have:=Bh1 g;have w:=Bte (List.replicate a0.length false);simp only[B1] at w;simp only[Br,Bx];omega
 . rintro ⟨t,o⟩ ⟨E,q,u⟩;cases t with
   | nil=>exact tS q
   | cons x t=>
     have hx:=u x (List.mem_cons_self);have p:a0[x.toNat]?=some (a0.getD x.toNat []):=by rw[Bu,Bp AQ];rfl
     have Ek:=h.gr _ (Bt p);simp only[Br] at E;refine tB (P:=λ e=>e.1.length+cf e.2.1+1<=t.length+1+cf o/\e.2.1.length=n/\∀x∈e.1,0<=x/\x<(n:Int)) (tL (λ s=>s.1.length+cf s.2.1+1<=t.length+1+cf o/\s.2.1.length=n/\(∀x∈s.1,0<=x/\x<(n:Int))/\0<=s.2.2/\s.2.2<=(a0.getD x.toNat []).length) (λ s=>((a0.getD x.toNat []).length - s.2.2).toNat) ⟨AR,q,λ y k=>u y (List.mem_cons_of_mem _ k),AR,AR⟩ ?_) ?_
     . rintro ⟨N,K,i⟩ ⟨f,b,a,H,I⟩;simp only[] at f b a H I;refine tI AQ λ row Anx _=>?_;obtain rfl:a0.getD x.toNat []=row:=by rw[p] at Anx;exact Bf Anx
       refine tD (λ _=>tI AQ λ y _ k=>?_) (λ _=>tS ⟨f,b,a⟩);have l:=Ek.2 y k;have S:i64.wrap (i+1)=i+1:=C2 AQ AQ;refine tI AQ λ s _ _=>tC (λ _=>tS ⟨⟨f,b,a,AR,AR⟩,AR⟩) (λ _=>tI AQ λ m g _=>tC (λ _=>tS ⟨⟨f,b,a,AR,AR⟩,AR⟩) (λ j=>?_));subst j;have Q:=Bh1 g;refine tG AQ λ _=>tS ⟨⟨AU,AU,Es a l,AR,AR⟩,AR⟩
     . rintro ⟨N,K,T⟩ ⟨f,b,a⟩;exact tS ⟨⟨AR,b,a⟩,AU⟩
theorem YI:∀(n:Nat) (l:Aa),l.Nodup->(∀x∈l,0<=x/\x<(n:Int))->l.length<=n
 | 0,l,_,h=>by
   cases l with
   | nil=>simp
   | cons a l=>have:=h a List.mem_cons_self;omega
 | n+1,l,b,h=>by
   have j:=YI n (l.filter (· != (n:Int))) (b.sublist List.filter_sublist) (λ x hx=>by
     have:=List.mem_filter.1 hx;have h2:=h x this.1;have k:x≠(n:Int):=by simpa using this.2
     omega)
   have m:l.length<=(l.filter (· != (n:Int))).length+1:=by
     have:∀l:Aa,l.Nodup->l.length<=(l.filter (· != (n:Int))).length+1:=by
       intro l
       induction l with
       | nil=>intro _;simp
       | cons a l i=>
         intro b;have J9:=List.nodup_cons.1 b;by_cases e:a=(n:Int)
         . have:l.filter (· != (n:Int))=l:=by
             rw[List.filter_eq_self];intro y g;have:y≠(n:Int):=λ f=>J9.1 (e ▸ f ▸ g)
             simpa using this
           simp[Co,e,this]
         . have:=i J9.2;simp[Co,e];omega
     exact this l b
   omega
structure LK(C U:Nat)(CP:Aa)(CQ:Ab):Prop where
 ol:CP.length=C
 ql:CQ.length=C
 OZ:C<=48
 u8:U<=8
 ow:∀o∈CP,-1<=o/\o<(U:Int)
 qr:∀row∈CQ,∀x∈row,0<=x/\x<(U:Int)
 nd:CQ.flatten.Nodup
 no:∀(i:Nat) o row,CP[i]?=some o->CQ[i]?=some row->o∉row
theorem YW{α:Type}(q:List (List α))(i):List.Sublist (q.take i).flatten q.flatten:=by
 conv=>rhs;rw[<-List.take_append_drop i q,List.flatten_append]
 exact List.sublist_append_left _ _
theorem Pm{α:Type}{q:List (List α)}{i}{row}(h:q[i]?=some row):(q.take (i+1)).flatten=(q.take i).flatten++row:=by rw[Gx h];simp
theorem LK.row{C U}{o}{q}(h:LK C U o q){row}(b:row∈q):row.Nodup/\row.length<=8:=by
 have a:row.Nodup:=h.nd.sublist (List.sublist_flatten_of_mem b);have:=YI U row a (h.qr row b);have:=h.u8;exact ⟨a,AQ⟩
def SE(seen:Ac)(l:Aa):Prop:=seen.length=8/\∀j:Nat,j<8->seen[j]?=some (decide ((j:Int)∈l))
theorem SE.snoc{seen}{l}(h:SE seen l){x}(h0:0<=x)(f:x<8):SE (seen.set x.toNat true) (l++[x]):=by
 obtain ⟨k,rfl⟩:=Ak9 h0;refine ⟨by rw[Bv];exact h.1,λ j b=>?_⟩;rw[BG];have:=h.1;by_cases e:k=j
 . subst e;simp;omega
 . have a:¬((j:Int)=(k:Int)):=AQ;simp[e,h.2 j b,a]
theorem Q4{C U}{o}{q}(h:LK C U o q):DU (Kh ⟨o,q⟩) (λ r=>r=true):=by
 have Q:=h.ol;have R:=h.ql;have NJ:=h.OZ;have T:=h.u8
 unfold Kh;dsimp only;refine tD (λ h=>AQ) λ _=>tD (λ _=>?_) (λ h=>AQ);refine tB (P:=λ e=>∃s,e= .inl s) (tL (λ s=>∃i:Nat,i<=C/\s.2=(i:Int)/\SE s.1 (q.take i).flatten) (λ s=>C - s.2.toNat) ⟨0,AQ,rfl,AT,λ j N=>by rw[CD,if_pos N];simp⟩ ?_) ?_;rotate_left
 . rintro _ ⟨⟨a,b⟩,rfl⟩;exact tS rfl
 rintro ⟨seen,_⟩ ⟨i,V,rfl,f⟩;dsimp only at f ⊢;rw[SM.eq_1];dsimp only;refine tD (λ Dv=>tI AQ λ x hx n=>?_) (λ _=>tS ⟨_,rfl⟩);rw[Be] at hx;have KL:=h.ow x n;obtain ⟨row,Ek⟩:∃row,q[i]?=some row:=⟨_,Bp AQ⟩;have g:=Bt Ek;have S:=h.row g;refine tD (λ h=>AQ) λ _=>tD (λ h=>AQ) λ _=>?_;refine tB (P:=λ e=>∃s,e= .inl s/\SE s.1 (q.take (i+1)).flatten) (tL (λ s=>∃k:Nat,k<=row.length/\s.2=(k:Int)/\SE s.1 ((q.take i).flatten++row.take k)) (λ s=>row.length - s.2.toNat) ⟨0,AQ,rfl,by simpa using f⟩ ?_) ?_
 . rintro ⟨seen,_⟩ ⟨k,W,rfl,f⟩;dsimp only at f ⊢;rw[SN.eq_1];dsimp only;rw[EZ Ek,Bd];refine tD (λ Dv=>tI AQ λ y p l=>?_) (λ K=>tS ⟨_,rfl,?_⟩)
   . rw[Be] at p;have t:=h.qr row g y l;have m:((q.take i).flatten++row.take k++[y]).Nodup:=by
       have H:List.Sublist ((q.take i).flatten++row.take (k+1)) q.flatten:=by
         refine List.Sublist.trans ?_ (YW q (i+1));rw[Pm Ek];exact List.Sublist.append (List.Sublist.refl _) (List.take_sublist _ _)
       rw[Gx p,<-Cr] at H;exact h.nd.sublist H
     have v:y∉(q.take i).flatten++row.take k:=by
       intro I;have:=(List.nodup_append.1 m).2.2 y I y AT;exact this rfl
     refine tD (λ h=>AQ) λ _=>tD (λ h=>AQ) λ _=>tA f.1 AQ λ z w _=>?_;have B:=f.2 y.toNat AQ;rw[B] at w;have u:((y.toNat:Nat):Int)=y:=AQ;rw[u] at w;have E:z=false:=by rw[<-Bf w];simp[v]
     subst E;refine tC (λ h=>by cases h) λ _=>tD (λ e=>?_) λ _=>tS ⟨⟨k+1,AQ,C2 AQ AQ,?_⟩,?_⟩
     . exact absurd l (e ▸ h.no i x row hx Ek)
     . rw[Gx p,<-Cr];exact f.snoc t.1 AQ
     . dsimp only;rw[C2 AQ AQ];omega
   . have:k=row.length:=AQ;subst this;rw[Pm Ek];rwa[BH] at f
 . rintro _ ⟨⟨s,k⟩,rfl,f⟩;exact tS ⟨⟨i+1,AQ,C2 AQ AQ,f⟩,by dsimp only;rw[C2 AQ AQ];omega⟩
theorem Aml(a0)(b:a0.CP.length<=1000)(h2:a0.CQ.length<=1000)(a:∀r∈a0.CQ,r.length<=1000):DU (H5 a0) (λ r=>r=a0):=by
 unfold H5;refine tG AQ λ _=>tB (Aw3 (Q:=λ e=>e.1=a0.CQ) a0.CQ (λ x=>[x]) ?_ ?_) ?_
 . intro i x hx;have:=Fh hx;have:=a x (Bt hx);have hb:=Ka a0.CQ i (λ x=>[x]) (by intro x;simp);rw[Q5.eq_1,EZ hx,C2 AQ AQ,Bi (by omega:(i:Int)<((a0.CQ.length:Nat):Int)),Bm,Bd,Bi AQ,Bm,Bi AQ,Bm]
 . rw[Q5.eq_1,Bj AQ,Bl];exact tS (Aob _)
 . rintro ⟨v,i⟩ h;dsimp only at h;subst h;exact tS rfl
theorem AS{p:Prop}(h:p:=by dsimp only;omega):p:=h
theorem LK.copy{C U}{o}{q}(h:LK C U o q):DU (H5 ⟨o,q⟩) (λ r=>r=⟨o,q⟩):=by
 have:=h.ol;have:=h.ql;have:=h.OZ
 exact Aml _ AS AS (λ r a=>by have:=(h.row a).2;omega)
theorem LS{C U}{o}{q}(h:LK C U o q)(a1):DU (K6 ⟨o,q⟩ a1) (λ r=>(r=-1/\∀row∈q,a1∉row)∨(0<=r/\r<(C:Int)/\∃row,q[r.toNat]?=some row/\a1∈row)):=by
 have f:=h.ql;have NJ:=h.OZ
 unfold K6;refine tB (Nd (Q:=λ e=>match e with | .inl _=>∀row∈q,a1∉row | .inr r=>0<=r/\r<(C:Int)/\∃row,q[r.toNat]?=some row/\a1∈row) q (λ i=>∀row∈q.take i,a1∉row) AT ?_ ?_) ?_
 . intro i x hx b a g;rw[W5.eq_1];dsimp only;refine tD (λ _=>?_) (λ h=>AQ);rw[EZ hx,Bd];refine tB (Mj x a1 (by have:=(h.row b).2;omega)) ?_;rintro _ rfl;refine tD (λ e=>tS ⟨AQ,AQ,x,by simpa using hx,e⟩) (λ e=>tS ⟨C2 AQ AQ,?_⟩);rw[Gx hx];exact Es a e
 . intro a;rw[W5.eq_1];dsimp only;refine tD (λ h=>AQ) (λ _=>tS ?_);rwa[BH] at a
 . rintro (v | r) h
   . exact tS (Or.inl ⟨rfl,h⟩)
   . exact tS (Or.inr h)
theorem WY{C U}{o}{q}(h:LK C U o q)(a1 a2)(b:0<=a1/\a1<8)(h2:0<=a2/\a2<(C:Int)):DU (LO ⟨o,q⟩ a1 a2) (λ r=>r=0):=by
 have a:=h.ol;unfold LO;dsimp only;refine tB (Q4 h) ?_;rintro _ rfl;refine tC (λ _=>?_) (λ h=>by cases h);refine tD (λ h=>AQ) λ _=>tD (λ h=>AQ) λ _=>tD (λ h=>AQ) λ _=>tD (λ h=>AQ) λ _=>tS rfl
theorem Abj{C U}{o}{q}(h:LK C U o q)(a1)(a:0<=a1/\a1<8):DU (P7 ⟨o,q⟩ a1) (λ r=>r=0):=by
 unfold P7;refine tB (Q4 h) ?_;rintro _ rfl;refine tC (λ _=>?_) (λ h=>by cases h);refine tD (λ h=>AQ) λ _=>tD (λ h=>AQ) λ _=>tS rfl
theorem LK.ownRow{C U}{o}{q}(h:LK C U o q)(o')(a:o'.length=o.length)(h2:∀x∈o',-1<=x/\x<(U:Int))(b:∀(i:Nat) x row,o'[i]?=some x->q[i]?=some row->x∉row):LK C U o' q:=
 ⟨a.trans h.ol,h.ql,h.OZ,h.u8,h2,h.qr,h.nd,b⟩
theorem NZ{C U}{o}{q}(h:LK C U o q)(a1)(f:0<=a1/\a1<(C:Int))(h2:o[a1.toNat]?≠some (-1)):DU (Iu ⟨o,q⟩ a1) (λ r=>r=(⟨o.set a1.toNat (-1),q⟩,0)/\LK C U (o.set a1.toNat (-1)) q):=by
 have j:=h.ol;unfold Iu;dsimp only;refine tB (WY h 0 a1 AQ f) ?_;rintro _ rfl;refine tD (λ _=>tI AQ λ x hx _=>tD (λ e=>?_) λ _=>tB h.copy ?_) (λ h=>AQ)
 . exact absurd (e ▸ hx) h2
 . rintro _ rfl;refine tI AS λ _ _ _=>tS ⟨rfl,h.ownRow _ AT (EM h.ow AQ) ?_⟩;intro i x row a b;rw[BG] at a;split at a
   . split at a
     . intro g;have:=h.qr row (Bt b) x g;have:=Bf a;omega
     . cases a
   . exact h.no i x row a b
theorem Am5(a0)(a1)(b:a0.length<=1000):DU (IB a0 a1) (λ r=>r=a0.filter (· != a1)):=by
 unfold IB;refine tB (Aw3 (Q:=λ e=>e.1=a0.filter (· != a1)) a0 (λ x=>if x != a1 then [x] else []) ?_ ?_) ?_
 . intro i x hx;have:=Fh hx;have a:i64.wrap ((i:Int)+1)=(i:Int)+1:=C2 AQ AQ;have hb:=Ka a0 i (λ x=>if x != a1 then [x] else []) (by intro x;split<;>simp);rw[Jt.eq_1,EZ hx,a,Bi (by omega:(i:Int)<((a0.length:Nat):Int)),Bm,Bd];by_cases e:x=a1
   . simp[e]
   . rw[Bj e,Bl,Bi AQ,Bm];simp[e]
 . rw[Jt.eq_1,Bj AQ,Bl];exact tS (Tp _ _)
 . rintro ⟨v,i⟩ h;exact tS h
theorem RZ{α:Type}:∀(q:List (List α)) (i:Nat) (row Ac0:List α),q[i]?=some row->List.Sublist Ac0 row->List.Sublist (q.set i Ac0).flatten q.flatten
 | [],i,_,_,h,_=>by simp at h
 | a::q,0,row,Ac0,h,b=>by
   simp only[BE,Bo] at h;subst h;exact List.Sublist.append b (List.Sublist.refl _)
 | a::q,i+1,row,Ac0,h,b=>by
   exact List.Sublist.append (List.Sublist.refl _) (RZ q i row Ac0 h b)
theorem Qu{α:Type}:∀(q:List (List α)) (i:Nat) (row:List α) (x:α),q[i]?=some row->List.Perm (q.set i (row++[x])).flatten (x::q.flatten)
 | [],i,_,_,h=>by simp at h
 | a::q,0,row,x,h=>by
   simp only[BE,Bo] at h;subst h;simp only[BT,List.flatten_cons,Cr];exact List.perm_middle
 | a::q,i+1,row,x,h=>by
   exact ((Qu q i row x h).append_left a).trans List.perm_middle
theorem LK.less{C U}{o}{q}(h:LK C U o q)(i)(row Ac0)(a:q[i]?=some row)(b:List.Sublist Ac0 row):LK C U o (q.set i Ac0):=by
 refine ⟨h.ol,by rw[Bv];exact h.ql,h.OZ,h.u8,h.ow,EM h.qr (λ x hx=>h.qr row (Bt a) x (b.subset hx)),h.nd.sublist (RZ q i row Ac0 a b),?_⟩;intro j x r f JE;rw[BG] at JE;split at JE
 . rename_i e;subst e;split at JE
   . cases JE;exact λ g=>h.no i x row f a (b.subset g)
   . cases JE
 . exact h.no j x r f JE
theorem Ajk{C U}{o}{q}(h:LK C U o q)(a1)(e:0<=a1/\a1<8):DU (LQ ⟨o,q⟩ a1) (λ r=>(r.2.2≠0/\∀row∈q,a1∉row)∨(r.2.2=0/\r.1.CP=o/\LK C U o r.1.CQ/\0<=r.2.1/\r.2.1<(C:Int))):=by
 have i:=h.ql;unfold LQ;refine tB (Abj h a1 e) ?_;rintro _ rfl;refine tD (λ _=>tB (LS h a1) ?_) (λ h=>AQ);rintro x hx;refine tD (λ Dv=>tS (Or.inl ⟨AS,?_⟩)) (λ g=>tB h.copy ?_)
 . rcases hx with ⟨_,hx⟩ | ⟨a,_⟩
   . exact hx
   . omega
 . rintro _ rfl;rcases hx with ⟨a,hx⟩ | ⟨a,f,row,Ek,j⟩
   . omega
   . refine tI AS λ Bnf Blg b=>?_;obtain rfl:row=Bnf:=by rw[Ek] at Blg;exact Bf Blg
     refine tB (Am5 row a1 (by have:=(h.row b).2;omega)) ?_;rintro _ rfl;exact tS (Or.inr ⟨rfl,rfl,h.less _ _ _ Ek List.filter_sublist,a,f⟩)
theorem Are{C U}{o}{q}(h:LK C U o q)(a1 a2)(k:0<=a1/\a1<(U:Int))(h2:0<=a2/\a2<(C:Int)):DU (SR ⟨o,q⟩ a1 a2) (λ r=>r.2≠0∨(r.2=0/\r.1.CP=o/\LK C U o r.1.CQ)):=by
 have n:=h.ol;have p:=h.ql;have u:=h.u8
 unfold SR;dsimp only;refine tB (WY h a1 a2 AQ h2) ?_;rintro _ rfl;refine tD (λ _=>tB (LS h a1) ?_) (λ h=>AQ);rintro x hx;refine tD (λ m=>tS (Or.inl AS)) (λ Dv=>tI AQ λ y i s=>tD (λ e=>tS (Or.inl AS)) λ EG=>tB h.copy ?_);rintro _ rfl;rcases hx with ⟨_,hx⟩ | ⟨t,_⟩
 rotate_left
 . omega
 refine tI AS λ row Ek f=>tG (by have:=(h.row f).2;omega) λ _=>tS (Or.inr ⟨rfl,rfl,h.ol,by dsimp only;rw[List.length_set];exact h.ql,h.OZ,h.u8,h.ow,EM h.qr (Es (h.qr row f) k),?_,?_⟩)
 . dsimp only;rw[(Qu q _ row a1 Ek).nodup_iff];refine List.nodup_cons.2 ⟨?_,h.nd⟩;intro l;obtain ⟨r,a,b⟩:=List.mem_flatten.1 l;exact hx r a b
 . intro j z r g a;rw[BG] at a;split at a
   . rename_i e;subst e;split at a
     . cases a;intro b;rcases BC.1 b with b | b
       . exact h.no _ z row g Ek b
       . obtain rfl:=BF.1 b;rw[g] at i;exact EG (Bf i).symm
     . cases a
   . exact h.no j z r g a
theorem Ajm{C U}{o}{q}(h:LK C U o q)(a1)(hc:a1.length=C):DU (N0 ⟨o,q⟩ a1) (λ r=>r.2.2=0/\LK C U r.1.CP r.1.CQ/\(∀g∈r.2.1,0<=g.CY/\g.CY<(U:Int)/\0<=g.cell/\g.cell<(C:Int)/\o[g.cell.toNat]?=some (-1)/\r.1.CP[g.cell.toNat]?=some g.CY)/\(r.2.1.map (·.cell)).Pairwise (· < ·)/\r.2.1.length<=C/\∀(i:Nat) x,o[i]?=some x->x≠-1->r.1.CP[i]?=some x):=by
 have V:=h.ol;have NJ:=h.OZ
 unfold N0;dsimp only;refine tB (Q4 h) ?_;rintro _ rfl;refine tC (λ _=>tD (λ _=>tB h.copy ?_) (λ h=>AQ)) (λ h=>by cases h);rintro _ rfl;refine tB (P:=λ e=>LK C U e.1 e.2.1/\(∀g∈e.2.2.1,0<=g.CY/\g.CY<(U:Int)/\0<=g.cell/\g.cell<(C:Int)/\o[g.cell.toNat]?=some (-1)/\e.1[g.cell.toNat]?=some g.CY)/\(e.2.2.1.map (·.cell)).Pairwise (· < ·)/\e.2.2.1.length<=C/\∀(i:Nat) x,o[i]?=some x->x≠-1->e.1[i]?=some x)
   (tL (λ s=>∃i:Nat,i<=C/\s.2.2.2=(i:Int)/\LK C U s.1 s.2.1/\(∀g∈s.2.2.1,0<=g.CY/\g.CY<(U:Int)/\0<=g.cell/\g.cell<(C:Int)/\g.cell<(i:Int)/\o[g.cell.toNat]?=some (-1)/\s.1[g.cell.toNat]?=some g.CY)/\(s.2.2.1.map (·.cell)).Pairwise (· < ·)/\s.2.2.1.length<=i/\(∀(j:Nat) x,o[j]?=some x->x≠-1->s.1[j]?=some x)/\∀j:Nat,i<=j->s.1[j]?=o[j]?) (λ s=>C - s.2.2.2.toNat) ⟨0,AQ,rfl,h,all_nil,List.Pairwise.nil,AT,λ j x f _=>f,λ j _=>rfl⟩ ?_) ?_
 rotate_left
 . rintro ⟨H,R,S,v4⟩ ⟨k,n,t,Q,u⟩;exact tS ⟨rfl,k,n,t,Q,u⟩
 rintro ⟨H,R,S,v4⟩ ⟨i,hi,rfl,k,n,t,Q,u,B⟩;dsimp only at*;have l1:=k.ol;have l2:=k.ql
 rw[SQ.eq_1];have W:i64.wrap ((i:Int)+1)=(i:Int)+1:=C2 AQ AQ;rw[W];have stay:(i:Int)<(H.length:Int)->(λ y:(Aa×Ab×AB×Int)⊕(Aa×Ab×AB×Int)=>match y with | .inl l=>(∃i:Nat,i<=C/\l.2.2.2=(i:Int)/\LK C U l.1 l.2.1/\(∀g∈l.2.2.1,0<=g.CY/\g.CY<(U:Int)/\0<=g.cell/\g.cell<(C:Int)/\g.cell<(i:Int)/\o[g.cell.toNat]?=some (-1)/\l.1[g.cell.toNat]?=some g.CY)/\(l.2.2.1.map (·.cell)).Pairwise (· < ·)/\l.2.2.1.length<=i/\(∀(j:Nat) x,o[j]?=some x->x≠-1->l.1[j]?=some x)/\∀j:Nat,i<=j->l.1[j]?=o[j]?)/\C - l.2.2.2.toNat<C - (i:Int).toNat | .inr e=>LK C U e.1 e.2.1/\(∀g∈e.2.2.1,0<=g.CY/\g.CY<(U:Int)/\0<=g.cell/\g.cell<(C:Int)/\o[g.cell.toNat]?=some (-1)/\e.1[g.cell.toNat]?=some g.CY)/\(e.2.2.1.map (·.cell)).Pairwise (· < ·)/\e.2.2.1.length<=C/\∀(i:Nat) x,o[i]?=some x->x≠-1->e.1[i]?=some x) (.inl (H,R,S,(i:Int)+1)):=λ Dv=>
   ⟨⟨i+1,AQ,AT,k,λ g m=>by have:=n g m;refine ⟨this.1,this.2.1,this.2.2.1,this.2.2.2.1,AQ,this.2.2.2.2.2⟩,t,AS,u,λ j f=>B j AQ⟩,AS⟩
 refine tD (λ Dv=>tI AQ λ x hx Y=>?_) (λ _=>tS ⟨k,λ g m=>by have:=n g m;exact ⟨this.1,this.2.1,this.2.2.1,this.2.2.2.1,this.2.2.2.2.2⟩,t,AS,u⟩);refine tD (λ e=>tI AQ λ cl _ _=>tC (λ _=>tS (stay Dv)) λ _=>tI AQ λ row Ek p=>?_) (λ _=>tS (stay Dv));subst e;refine tD (λ HO=>?_) (λ _=>tS (stay Dv));cases row with
 | nil=>simp at HO
 | cons r row=>
   have K:=k.qr _ p r List.mem_cons_self;have v:=(k.row p);refine tI AQ λ y Z _=>tG AQ λ _=>tG AQ λ _=>tS ?_;have:r=y:=by simpa using Z
   subst this;have I:o[i]?=some (-1):=by rw[<-B i AQ];exact hx
   have Aus:(List.drop 1 (List.take (r::row).length (r::row)))=row:=AT;rw[Aus,Be];have w:r∉row:=(List.nodup_cons.1 v.1).1;have Xs:=k.less i _ row Ek (List.sublist_cons_self r row);refine ⟨⟨i+1,AQ,AT,Xs.ownRow _ AT (EM k.ow AQ) ?_,?_,?_,by dsimp only;rw[List.length_append];simp only[List.length_cons,List.length_nil];omega,?_,?_⟩,AS⟩
   . intro j z E f JE;rw[BG] at f;by_cases e:i=j
     . subst e;rw[if_pos rfl,if_pos AQ] at f;rw[BG,if_pos rfl,if_pos AQ] at JE;cases f;cases JE;exact w
     . rw[if_neg e] at f;exact Xs.no j z E f JE
   . refine Es (λ g m=>?_) ⟨K.1,K.2,AS,AS,AS,by simpa using I,by dsimp only;rw[Be,List.getElem?_set,if_pos rfl,if_pos AQ]⟩;have:=n g m;refine ⟨this.1,this.2.1,this.2.2.1,this.2.2.2.1,AQ,this.2.2.2.2.2.1,?_⟩;rw[BG,if_neg AQ];exact this.2.2.2.2.2.2
   . dsimp only;rw[List.map_append,List.pairwise_append];refine ⟨t,AT,?_⟩;intro a T b hb;obtain ⟨g,m,rfl⟩:=BS.1 T;simp only[B4,List.map_nil,BF] at hb;subst hb;exact (n g m).2.2.2.2.1
   . intro j z f N;rw[BG];by_cases e:i=j
     . subst e;rw[I] at f;exact absurd (Bf f).symm N
     . rw[if_neg e];exact u j z f N
   . intro j f;rw[BG,if_neg AQ];exact B j AQ
theorem W1{C U}{o}{q}(h:LK C U o q)(a1)(l:0<=a1/\a1<8):DU (LP ⟨o,q⟩ a1) (λ r=>r.1.length<=C/\r.1.Nodup/\∀c∈r.1,0<=c/\c<(C:Int)/\o[c.toNat]?=some a1):=by
 have n:=h.ol;have NJ:=h.OZ
 unfold LP;refine tB (Abj h a1 l) ?_;rintro _ rfl;refine tD (λ _=>?_) (λ h=>AQ);refine tB (P:=λ e=>e.1.length<=C/\e.1.Nodup/\∀c∈e.1,0<=c/\c<(C:Int)/\o[c.toNat]?=some a1) (tL (λ s=>∃i:Nat,i<=C/\s.2=(i:Int)/\s.1.length<=i/\s.1.Nodup/\∀c∈s.1,0<=c/\c<(i:Int)/\o[c.toNat]?=some a1) (λ s=>C - s.2.toNat) ⟨0,AQ,rfl,AT,List.nodup_nil,all_nil⟩ ?_) ?_
 . rintro ⟨v,_⟩ ⟨i,u,rfl,t,g,j⟩;dsimp only at t;rw[SO.eq_1];dsimp only;have p:i64.wrap ((i:Int)+1)=(i:Int)+1:=C2 AQ AQ;rw[p];have k:∀c∈v,0<=c/\c<((i+1:Nat):Int)/\o[c.toNat]?=some a1:=λ c f=>by have:=j c f;exact ⟨this.1,AQ,this.2.2⟩
   refine tD (λ Dv=>tI AQ λ x hx _=>tD (λ e=>tG AQ λ _=>tS ⟨⟨i+1,AQ,AT,AW,?_,?_⟩,AS⟩) (λ _=>tS ⟨⟨i+1,AQ,AT,AS,g,k⟩,AS⟩)) (λ _=>tS ⟨AS,g,λ c f=>by have:=j c f;exact ⟨this.1,AQ,this.2.2⟩⟩)
   . dsimp only;rw[List.nodup_append];refine ⟨g,AT,?_⟩;rintro a m b hb rfl;obtain rfl:=BF.1 hb;have:=j _ m;omega
   . exact Es k ⟨AQ,AQ,by rw[hx,e]⟩
 . rintro ⟨v,i⟩ h;exact tS h
structure NW(C B S:Nat)(n:Nt):Prop where
 nb:n.blocks.length=B
 b1:1<=B
 g:GW B n.next
 ns:n.CT.length=S
 s6:S<=6
 sp:∀s∈n.CT,0<=s.PJ/\s.PJ<(B:Int)/\0<=s.out/\s.out<(B:Int)/\1<=s.Eg/\s.Eg<=4/\(B:Int)<=s.base/\s.base+s.Eg<=(C:Int)
 cov:∀x:Int,(B:Int)<=x->x<(C:Int)->∃s∈n.CT,s.base<=x/\x<s.base+s.Eg
 OZ:C<=48
 bc:B<=C
 vd:u_r03_Valid_v n=some true
 cs:Fg n=some (C:Int)
 rl:n.C7.length<=8
 rr:∀x∈n.C7,(B:Int)<=x/\x<(C:Int)
 rn:n.C7.Nodup
theorem Zu(a0)(a1):DU (NH a0 a1) (λ _=>True):=by
 unfold NH
 repeat' (first | (with_reducible refine tI (by (first | omega | (simp only[Bv,Bw,Br,Bx,B1,BK,Ct] at*;omega))) (λ _ _ _=>?_)) | (with_reducible refine tG (by (first | omega | (simp only[Bv,Bw,Br,Bx,B1,BK,Ct] at*;omega))) (λ _=>?_)) | (with_reducible refine tD (λ _=>?_) (λ _=>?_)) | (with_reducible refine tC (λ _=>?_) (λ _=>?_)) | (with_reducible refine tS ?_))
 all_goals trivial
theorem Md{C B S}{n}(h:NW C B S n)(a1)(m:a1<1000000):DU (Ff n a1) (λ r=>(r.1=-1/\∀s∈n.CT,¬(s.base<=a1/\a1<s.base+s.Eg))∨(0<=r.1/\r.1<(S:Int)/\1<=r.2/\r.2<=4/\(B:Int)<=a1/\a1<(C:Int)/\∃s,n.CT[r.1.toNat]?=some s/\s.base<=a1/\a1<s.base+s.Eg/\r.2=a1 - s.base+1)):=by
 have l:=h.s6;have Ue:=h.ns;have NJ:=h.OZ
 unfold Ff;refine tB (Nd (Q:=λ e=>match e with | .inl _=>∀s∈n.CT,¬(s.base<=a1/\a1<s.base+s.Eg) | .inr r=>(0<=r.1/\r.1<(S:Int)/\1<=r.2/\r.2<=4/\(B:Int)<=a1/\a1<(C:Int)/\∃s,n.CT[r.1.toNat]?=some s/\s.base<=a1/\a1<s.base+s.Eg/\r.2=a1 - s.base+1)) n.CT (λ i=>∀s∈n.CT.take i,¬(s.base<=a1/\a1<s.base+s.Eg)) AT ?_ ?_) ?_
 . intro i s b j a o;have:=h.sp s j;refine tD (λ _=>?_) (λ h=>AQ);rw[EZ b,Bd];have k:i64.wrap ((i:Int)+1)=(i:Int)+1:=C2 AQ AQ;rw[C2 (n:=s.base+s.Eg) AQ AQ,k];refine tD (λ f=>tD (λ g=>tS ?_) (λ e=>tS ⟨rfl,?_⟩)) (λ e=>tS ⟨rfl,?_⟩)
   . dsimp only;rw[C2 (n:=a1 - s.base) AQ AQ,C2 AQ AQ];exact ⟨AQ,AQ,AQ,AQ,AQ,AQ,s,by simpa using b,f,g,rfl⟩
   . rw[Gx b];exact Es a AQ
   . rw[Gx b];exact Es a AQ
 . intro a;refine tD (λ h=>AQ) (λ _=>tS ?_);rwa[BH] at a
 . rintro (v | r) h
   . exact tS (Or.inl ⟨rfl,h⟩)
   . exact tS (Or.inr h)
theorem Wq{C B S}{n}(h:NW C B S n){a}(b:∀s∈n.CT,¬(s.base<=a/\a<s.base+s.Eg))(h2:a<(C:Int)):a<(B:Int):=by
 by_cases e:a<(B:Int)
 . exact e
 . obtain ⟨s,g,f⟩:=h.cov a AQ h2;exact absurd f (b s g)
structure Vt(C S T:Nat)(u:KM):Prop where
 hm:-2<=u.Eu/\u.Eu<(S:Int)
 ce:-1<=u.cell/\u.cell<(C:Int)
 tt:-1<=u.E9/\u.E9<(C:Int)
 tk:-1<=u.DY/\u.DY<(T:Int)
 rt:∀c∈u.Db,0<=c/\c<(C:Int)
 rl:u.Db.length<=1000
 ac:u.state=1->0<=u.cell
structure TOK(S U:Nat)(t:Tsk):Prop where
 pk:0<=t.pick/\t.pick<(S:Int)
 dr:0<=t.drop/\t.drop<(S:Int)
 rb:t.state=1∨t.state=2->0<=t.CY/\t.CY<(U:Int)
theorem EK{i}{n:Nat}(h0:0<=i)(h:i<(n:Int))(a:n<=100000000):i64.wrap (i+1)=i+1:=C2 AQ AQ
theorem Agr{C B S}{n}(h:NW C B S n)(a1 a2)(e:a1<1000000):DU (LH n a1 a2) (λ _=>True):=by
 unfold LH;refine tD (λ _=>tS trivial) (λ _=>tB (Md h a1 e) ?_);rintro ⟨a,b⟩ _;exact tS trivial
theorem Bb9{C B S T}{n}(h:NW C B S n)(u)(l)(a3)(a:Vt C S T u)(b:l.length=T):DU (JT n u l a3) (λ _=>True):=by
 have:=a.ce;have:=a.tt;have:=a.tk;have:=h.OZ
 unfold JT;refine tD (λ _=>tB (Agr h _ _ AQ) λ _ _=>tC (λ _=>tS trivial) λ _=>tB (Agr h _ _ AQ) λ _ _=>?_) (λ _=>tS trivial)
 repeat' (first | (with_reducible refine tI (by (first | omega | (simp only[Bv,Bw,Br,Bx,B1,BK,Ct] at*;omega))) (λ _ _ _=>?_)) | (with_reducible refine tG (by (first | omega | (simp only[Bv,Bw,Br,Bx,B1,BK,Ct] at*;omega))) (λ _=>?_)) | (with_reducible refine tD (λ _=>?_) (λ _=>?_)) | (with_reducible refine tC (λ _=>?_) (λ _=>?_)) | (with_reducible refine tS ?_))
 all_goals trivial
theorem Bbl{C B S T}{n}(h:NW C B S n)(us)(l)(g:∀u∈us,Vt C S T u)(f:l.length=T)(OS:us.length<=8):DU (JU n us l) (λ r=>r.length=S):=by
 have o:=h.s6;have Ue:=h.ns
 unfold JU;refine tG AQ λ _=>tB (P:=λ e=>e.1.length=S) (tL (λ s=>s.1.length=S/\0<=s.2/\s.2<=(S:Int)) (λ s=>((S:Int) - s.2).toNat) ⟨by simp[Ue],AR,AR⟩ ?_) ?_
 . rintro ⟨v,i⟩ ⟨a,h2,m⟩;refine tD (λ Dv=>tB (P:=λ e=>e.1.length=S) (tL (λ s=>s.1.length=S/\0<=s.2/\s.2<=(us.length:Int)) (λ s=>((us.length:Int) - s.2).toNat) ⟨a,AR,AR⟩ ?_) ?_) (λ _=>tS a)
   . rintro ⟨w,j⟩ ⟨b,k,p⟩;dsimp only at b;refine tD (λ Sb=>tI AQ λ s _ _=>tC (λ _=>tS b) λ _=>tI AQ λ u _ UH=>tB (Bb9 h u l i (g u UH) f) λ t _=>?_) (λ _=>tS b);rw[EK k Sb AQ];refine tC (λ _=>tI AQ λ _ _ _=>tS AU) (λ _=>tS AU)
   . rintro ⟨w,j⟩ b;rw[C2 AQ AQ];exact tS AR
 . rintro ⟨v,i⟩ a;exact tS a
theorem Bkx{C B S U T}{n}(h:NW C B S n)(us)(l)(a3)(j:∀u∈us,Vt C S T u)(g:∀t∈l,TOK S U t)(i:l.length=T)(OS:us.length<=8)(k:0<=a3/\a3<(T:Int)):DU (SL n us l a3) (λ r=>r=true->∃t,l[a3.toNat]?=some t/\t.state=0):=by
 have Ue:=h.ns;unfold SL;refine tI AQ λ t f a=>tB (Bbl h us l j i OS) λ c m=>?_;have:=(g t a).pk;have:=(g t a).dr
 refine tD (λ e=>tI AQ λ _ _ _=>tI AQ λ _ _ _=>tD (λ _=>tI AQ λ _ _ _=>tI AQ λ _ _ _=>tS (λ _=>⟨t,f,e⟩)) (λ _=>tS (λ b=>by cases b))) (λ _=>tS (λ b=>by cases b))
theorem TX{C B S}{n}(h:NW C B S n)(a1)(a2)(b:a1.length=C)(h2:0<=a2/\a2<(S:Int)):DU (FJ n a1 a2) (λ _=>True):=by
 have Ue:=h.ns;have NJ:=h.OZ;have:=h.bc
 unfold FJ;refine tI AQ λ s _ a=>?_;have:=h.sp s a;refine tI AQ λ _ _ _=>tC (λ _=>tS trivial) λ _=>tI AQ λ _ _ _=>tC (λ _=>tS trivial) λ _=>tB (P:=λ _=>True) (tL (λ i=>s.base<=i/\i<=s.base+s.Eg) (λ i=>(s.base+s.Eg - i).toNat) AQ ?_) ?_
 . rintro i ⟨e,f⟩;rw[Pz.eq_1,C2 (n:=s.base+s.Eg) AQ AQ,C2 (n:=i+1) AQ AQ];refine tD (λ _=>tI AQ λ _ _ _=>tC (λ _=>tS trivial) λ _=>tS AR) (λ _=>tS trivial)
 . rintro (_ | r) _
   . exact tS trivial
   . exact tS trivial
theorem Wp{C B S}{n}(h:NW C B S n)(a1)(a2)(a3)(e:a1.length=C)(f:a2.length<=1000)(h2:0<=a3/\a3<(S:Int)):DU (Im n a1 a2 a3) (λ _=>True):=by
 have Ue:=h.ns;have:=h.bc
 unfold Im;refine tI AQ λ s _ j=>tC (λ _=>tB (TX h a1 a3 e h2) λ _ _=>tC (λ _=>tB (P:=λ _=>True) (tL (λ s=>0<=s.1/\s.1<=(a2.length:Int)) (λ s=>((a2.length:Int) - s.1).toNat) AR ?_) ?_) (λ _=>tS trivial)) (λ _=>tS trivial)
 . rintro ⟨i,w⟩ ⟨g,k⟩;refine tD (λ Dv=>tI AQ λ _ _ _=>?_) (λ _=>tS trivial);rw[EK g Dv AQ];refine tD (λ _=>tS AR) (λ _=>tS AR)
 . rintro ⟨a,b⟩ _;exact tS trivial
theorem gs{α:Type}{l:List α}{i}{v}(h:i<l.length):(l.set i v)[i]?=some v:=by rw[BG,if_pos rfl,if_pos h]
theorem Bb{p:Prop}(h:p:=by simp only[Bv];omega):p:=h
theorem Aqq{C B S}{n}(h:NW C B S n)(a1)(a2 a3)(o:a1.length=C)(I:a2.length<=8)(K:a3.length=a2.length)(u:∀x∈a3,-1<=x/\x<(S:Int))(h2:∀x∈a2,-2<=x/\x<(S:Int)):DU (K4 n a1 a2 a3) (λ r=>r.length=a2.length/\∀x∈r,-2<=x/\x<(S:Int)):=by
 have Ue:=h.ns;have T:=h.s6
 unfold K4;refine tG AQ λ _=>tB (P:=λ e=>e.1.length=a2.length/\∀x∈e.1,-2<=x/\x<(S:Int)) (tL (λ s=>s.1.length=a2.length/\(∀x∈s.1.take s.2.toNat,-2<=x/\x<(S:Int))/\0<=s.2/\s.2<=(a2.length:Int)) (λ s=>((a2.length:Int) - s.2).toNat) ⟨AT,AT,AR,AR⟩ ?_) ?_
 . rintro ⟨v,i⟩ ⟨a,b,g,E⟩;dsimp only at*;obtain ⟨i,rfl⟩:=Ak9 g;refine tD (λ Dv=>tI AQ λ x _ _=>tI AQ λ y _ _=>?_) (λ _=>tS ⟨a,?_⟩)
   . rw[EK g Dv AQ,Be];have m:∀z:Int,-2<=z/\z<(S:Int)->∀w:Aa,w.length=a2.length->w.take i=v.take i->w[i]?=some z->(w.length=a2.length/\(∀x∈w.take ((i:Int)+1).toNat,-2<=x/\x<(S:Int))/\0<=(i:Int)+1/\(i:Int)+1<=(a2.length:Int))/\((a2.length:Int) - ((i:Int)+1)).toNat<((a2.length:Int) - (i:Int)).toNat:=by
       intro z l w p q t;refine ⟨⟨p,?_,AQ,AQ⟩,AQ⟩;rw[show ((i:Int)+1).toNat=i+1 by omega,Gx t,q];exact Es b l
     refine tD (λ _=>tI Bb λ _ _ _=>tS (m (-2) AQ _ (by simp[a]) (by simp[List.take_set_of_le]) (gs Bb))) (λ _=>tI AQ λ z _ l=>tD (λ Q=>tB (TX h a1 z o (by have:=u z l;omega)) λ _ _=>tC (λ _=>tI Bb λ _ _ _=>tS (m z (by have:=u z l;omega) _ (by simp[a]) (by simp[List.take_set_of_le]) (gs Bb))) (λ _=>tS (m (-1) AQ _ (by simp[a]) (by simp[List.take_set_of_le]) (gs AQ)))) (λ _=>tS (m (-1) AQ _ (by simp[a]) (by simp[List.take_set_of_le]) (gs AQ))))
   . dsimp only;rwa[BA AQ] at b
 . rintro ⟨v,i⟩ ⟨a,b⟩;refine tB (P:=λ e=>e.1.length=a2.length/\∀x∈e.1,-2<=x/\x<(S:Int)) (tL (λ s=>s.1.length=a2.length/\(∀x∈s.1,-2<=x/\x<(S:Int))/\0<=s.2/\s.2<=(a2.length:Int)) (λ s=>((a2.length:Int) - s.2).toNat) ⟨a,b,AR,AR⟩ ?_) ?_
   . rintro ⟨v,i⟩ ⟨a,b,g,E⟩;dsimp only at a;refine tD (λ Dv=>tI AQ λ x _ _=>?_) (λ _=>tS ⟨a,b⟩);rw[EK g Dv AQ];refine tD (λ _=>tI AQ λ y _ N=>tD (λ _=>?_) (λ _=>tS ⟨⟨a,b,AR,AR⟩,AR⟩)) (λ _=>tS ⟨⟨a,b,AR,AR⟩,AR⟩);have:=h2 y N;refine tB (Wp h a1 v y o AQ AQ) λ _ _=>tD (λ _=>tS ⟨⟨by dsimp only;rw[List.length_set];exact a,EM b AQ,AR,AR⟩,AR⟩) (λ _=>tS ⟨⟨a,b,AR,AR⟩,AR⟩)
   . rintro ⟨v,i⟩ ⟨a,b⟩;refine tB (P:=λ e=>e.1.length=a2.length/\∀x∈e.1,-2<=x/\x<(S:Int)) (tL (λ s=>s.1.length=a2.length/\(∀x∈s.1,-2<=x/\x<(S:Int))/\0<=s.2/\s.2<=(a2.length:Int)) (λ s=>((a2.length:Int) - s.2).toNat) ⟨a,b,AR,AR⟩ ?_) (λ ⟨v,i⟩ H=>tS H);rintro ⟨v,i⟩ ⟨a,b,g,E⟩;dsimp only at a;refine tD (λ Dv=>tB (P:=λ e=>e.1.length=a2.length/\∀x∈e.1,-2<=x/\x<(S:Int)) (tL (λ s=>s.1.length=a2.length/\(∀x∈s.1,-2<=x/\x<(S:Int))/\0<=s.2/\s.2<=(S:Int)) (λ s=>((S:Int) - s.2).toNat) ⟨a,b,AR,AR⟩ ?_) ?_) (λ _=>tS ⟨a,b⟩)
     . rintro ⟨w,j⟩ ⟨f,k,R,U⟩;dsimp only at f;refine tD (λ Sb=>tI AQ λ x _ _=>tD (λ _=>tB (Wp h a1 w j o AQ AQ) λ _ _=>?_) (λ _=>tS ⟨f,k⟩)) (λ _=>tS ⟨f,k⟩);rw[EK R Sb AQ];refine tD (λ _=>tS ⟨⟨by dsimp only;rw[List.length_set];exact f,EM k AQ,AR,AR⟩,AR⟩) (λ _=>tS ⟨⟨f,k,AR,AR⟩,AR⟩)
     . rintro ⟨w,j⟩ ⟨f,k⟩;rw[EK g Dv AQ];exact tS ⟨⟨f,k,AR,AR⟩,AR⟩
theorem Bhw(l)(a1)(a2)(a:a1.length=l.length)(f:l.length<=1000):DU (P6 l a1 a2) (λ r=>r<0∨(0<=r/\r<(l.length:Int)/\∃t,l[r.toNat]?=some t/\t.state=0)):=by
 unfold P6;refine tB (Nd (Q:=λ e=>match e with | .inl _=>True | .inr r=>r<0∨(0<=r/\r<(l.length:Int)/\∃t,l[r.toNat]?=some t/\t.state=0)) l (λ _=>True) trivial ?_ ?_) ?_
 . intro i x hx g _ b;refine tD (λ _=>?_) (λ h=>AQ);rw[EZ hx,Bd,EK AQ AQ (by omega:l.length<=100000000)];refine tD (λ e=>tI AQ λ _ _ _=>tC (λ _=>tS (Or.inr ⟨AQ,AQ,x,by simpa using hx,e⟩)) λ _=>tD (λ _=>tS (Or.inl AQ)) λ _=>tS ⟨rfl,trivial⟩) (λ _=>tS ⟨rfl,trivial⟩)
 . intro _;exact tD (λ h=>AQ) (λ _=>tS trivial)
 . rintro (v | r) h
   . exact tS (Or.inl AQ)
   . exact tS h
theorem Bbo(l)(a1 a2)(g:0<=a1/\a1<(l.length:Int))(o:l.length<=1000)(x)(hx:l[a1.toNat]?=some x):DU (NU l a1 a2) (λ r=>r.map (λ t=>(t.pick,t.drop,t.state,t.CY))=(l.set a1.toNat {x with state:=1,CY:=a2}).map (λ t=>(t.pick,t.drop,t.state,t.CY))):=by
 unfold NU;refine tG AQ λ _=>tI g λ y a _=>tI Bb λ z f _=>?_;obtain rfl:x=y:=by rw[hx] at a;exact Bf a
 obtain rfl:{x with state:=1}=z:=by rw[BG,if_pos rfl,if_pos AQ] at f;exact Bf f
 rw[Cp];refine tB (P:=λ e=>e.1.map (λ t:Tsk=>(t.pick,t.drop,t.state,t.CY))=(l.set a1.toNat {x with state:=1,CY:=a2}).map (λ t=>(t.pick,t.drop,t.state,t.CY))) (tL (λ s=>s.1.map (λ t:Tsk=>(t.pick,t.drop,t.state,t.CY))=(l.set a1.toNat {x with state:=1,CY:=a2}).map (λ t=>(t.pick,t.drop,t.state,t.CY))/\0<=s.2/\s.2<=a1) (λ s=>(a1 - s.2).toNat) ⟨rfl,AR,AR⟩ ?_) (λ ⟨v,i⟩ k=>tS k);rintro ⟨v,i⟩ ⟨b,n,p⟩;have m:v.length=l.length:=by have:=congrArg List.length b;simpa using this
 refine tD (λ Dv=>tI AQ λ y a _=>?_) (λ _=>tS b);rw[EK n (by omega:i<(l.length:Int)) AQ];refine tD (λ _=>tS ⟨⟨?_,AR,AR⟩,AR⟩) (λ _=>tS ⟨⟨b,AR,AR⟩,AR⟩);rw[<-b,BJ];apply List.ext_getElem?;intro j;rw[BG];split
 . rename_i e;subst e;rw[Ct,if_pos AQ,BD,a];rfl
 . rfl
def DI(g:Ab)(EN:Int)(d:Aa):Prop:=∀(v:Nat) x,d[v]?=some x->x=-1∨(x=0/\(v:Int)=EN)∨(0<x/\x<=24/\∃row w,g[v]?=some row/\w∈row/\d[w.toNat]?=some (x - 1))
theorem DI.put{n}{g}{EN}{d}(H:GW n g)(h:DI g EN d){v}{k w}{row}(E:d.length=n)(a:d[v]?=some (-1)∨d[v]?=some k)(m:0<k/\k<=24)(Ek:g[v]?=some row)(t:w∈row)(i:d[w.toNat]?=some (k - 1)):DI g EN (d.set v k):=by
 rcases a with a | a
 . intro u x f;have s:=Fh a;have keep:∀(z:Nat) (y:Int),d[z]?=some y->0<=y->(d.set v k)[z]?=some y:=by
     intro z y l I;rw[BG];split
     . rename_i e;subst e;rw[a] at l;have:=Bf l;omega
     . exact l
   rw[BG] at f;split at f
   . rename_i e;subst e;cases f;exact Or.inr (Or.inr ⟨m.1,m.2,row,w,Ek,t,keep _ _ i AQ⟩)
   . rcases h u x f with b | b | ⟨b,h2,r,B,o,p,q⟩
     . exact Or.inl b
     . exact Or.inr (Or.inl b)
     . exact Or.inr (Or.inr ⟨b,h2,r,B,o,p,keep _ _ q AQ⟩)
 . have:d.set v k=d:=by
     apply List.ext_getElem?;intro j;rw[BG];split
     . rename_i e;subst e;rw[if_pos (Fh a),a]
     . rfl
   rw[this];exact h
theorem Yf{n}{g}(p:GW n g)(a1)(a2)(T:a1.length=n)(h2:0<=a2/\a2<(n:Int)):DU (Gt g a1 a2) (λ r=>r.length=n/\DI g a2 r):=by
 have q:=p.gl;have H:=p.g24
 unfold Gt;refine tG AQ λ _=>tB (P:=λ e=>e.1=List.replicate n (-1)) (tL (λ s=>∃i:Nat,i<=n/\s=(List.replicate i (-1)++List.replicate (n - i) 0,(i:Int))) (λ s=>n - s.2.toNat) ⟨0,AQ,by simp[q]⟩ ?_) ?_
 . rintro s ⟨i,R,l⟩;rw[l,PB.eq_1];refine tD (λ Dv=>tI AW λ _ _ _=>tS ?_) (λ _=>tS ?_)
   . refine ⟨⟨i+1,AQ,?_⟩,by dsimp only;rw[C2 AQ AQ];omega⟩;rw[C2 AQ AQ,Be,show n - i=(n - (i+1))+1 by omega,List.replicate_succ,List.set_append_right _ _ AT];simp[List.replicate_succ']
   . obtain rfl:i=n:=AQ;simp
 rintro ⟨_,_⟩ rfl;refine tI AQ λ c _ _=>tC (λ _=>tS ⟨AT,?_⟩) (λ _=>tI AW λ _ _ _=>?_)
 . intro v x hx;rw[CD] at hx;split at hx
   . exact Or.inl (Bf hx).symm
   . cases hx
 obtain ⟨a,rfl⟩:=Ak9 h2.1;have E:DI g a ((List.replicate n (-1)).set a 0):=by
   intro v x hx;rw[BG] at hx;split at hx
   . rename_i e;subst e;split at hx
     . exact Or.inr (Or.inl ⟨(Bf hx).symm,rfl⟩)
     . cases hx
   . rw[CD] at hx;split at hx
     . exact Or.inl (Bf hx).symm
     . cases hx
 refine tB (P:=λ e=>e.1.length=n/\DI g a e.1) (tL (λ s=>(s.1.length=n/\DI g a s.1)/\1<=s.2/\s.2<=24) (λ s=>(24 - s.2).toNat) ⟨⟨AT,E⟩,AR,AR⟩ ?_) (λ ⟨v,i⟩ l=>tS l);rintro ⟨d,k⟩ ⟨⟨u,z⟩,V,W⟩;refine tD (λ S=>tB (P:=λ e=>e.1.length=n/\DI g a e.1) (tL (λ s=>(s.1.length=n/\DI g a s.1)/\0<=s.2/\s.2<=(n:Int)) (λ s=>((n:Int) - s.2).toNat) ⟨⟨u,z⟩,AR,AR⟩ ?_) ?_) (λ _=>tS ⟨u,z⟩);rotate_left
 . rintro ⟨d,i⟩ ⟨b,f⟩;rw[C2 AQ AQ];exact tS ⟨⟨⟨b,f⟩,AR,AR⟩,AR⟩
 rintro ⟨d,v⟩ ⟨⟨b,f⟩,Q,Y⟩;dsimp only at b;obtain ⟨v,rfl⟩:=Ak9 Q;refine tD (λ Dv=>?_) (λ _=>tS ⟨b,f⟩);rw[C2 (n:=(v:Int)+1) AQ AQ];refine tI AQ λ c _ _=>tC (λ _=>tS ⟨⟨⟨b,f⟩,AR,AR⟩,AR⟩) λ _=>tI AQ λ x hx _=>tD (λ _=>tS ⟨⟨⟨b,f⟩,AR,AR⟩,AR⟩) λ Anz=>?_;have MM:x=-1:=by rcases f v x hx with h | h | h<;>omega
 subst MM;obtain ⟨row,Ek⟩:∃row,g[v]?=some row:=⟨_,Bp AQ⟩;have I:=p.gr row (Bt Ek);refine tB (P:=λ e=>e.1.length=n/\DI g a e.1) (tL (λ s=>(s.1.length=n/\DI g a s.1/\(s.1[v]?=some (-1)∨s.1[v]?=some k))/\0<=s.2/\s.2<=(row.length:Int)) (λ s=>((row.length:Int) - s.2).toNat) ⟨⟨b,f,Or.inl hx⟩,AR,AR⟩ ?_) (λ ⟨d,i⟩ l=>tS ⟨⟨l,AR,AR⟩,AR⟩);rintro ⟨d,j⟩ ⟨⟨o,t,B⟩,Z,p5⟩;dsimp only at o;rw[PC.eq_1];rw[EZ Ek,Bd];refine tD (λ Dv=>tI AQ λ w U m=>?_) (λ _=>tS ⟨o,t⟩);have K:=I.2 w m;rw[C2 (n:=j+1) AQ AQ,C2 (n:=k - 1) AQ AQ];refine tI AQ λ y N _=>tD (λ e=>tI AQ λ _ _ _=>tS ⟨⟨⟨by simpa using o,?_,Or.inr (by dsimp only;rw[Be];exact gs (AQ))⟩,AR,AR⟩,AR⟩) (λ _=>tS ⟨⟨⟨o,t,B⟩,AR,AR⟩,AR⟩);exact t.put p o B AQ Ek m (by rw[N,e])
def HI(g:Ab)(d h:Aa):Prop:=∀(v:Nat) x,d[v]?=some x->0<x->∃w row,h[v]?=some w/\g[v]?=some row/\w∈row/\d[w.toNat]?=some (x - 1)
theorem Bdo{n}{g}(z:GW n g)(t)(m)(hl:t.length=n)(h2:0<=m/\m<(n:Int)):DU (KY g t m) (λ r=>∃d,Gt g t m=some d/\r.length=n/\HI g d r):=by
 have I:=z.gl;have a0:=z.g24
 unfold KY;obtain ⟨d,hd,a3,o⟩:=Yf z t m hl h2;rw[hd,Bd];refine tG AQ λ _=>tB (P:=λ e=>e.1.length=n/\HI g d e.1) (tL (λ s=>∃i:Nat,s.2=(i:Int)/\i<=n/\s.1.length=n/\∀(v:Nat) x,v<i->d[v]?=some x->0<x->∃w row,s.1[v]?=some w/\g[v]?=some row/\w∈row/\d[w.toNat]?=some (x - 1)) (λ s=>n - s.2.toNat) ⟨0,rfl,AQ,by simp[I],λ v x hv=>AQ⟩ ?_) (λ ⟨v,i⟩ K=>tS ⟨d,rfl,K⟩);rintro ⟨h,_⟩ ⟨v,rfl,hv,Q,U⟩;dsimp only at Q;refine tD (λ Dv=>tI AQ λ _ _ _=>tI AQ λ row Ek N=>?_) (λ _=>tS ⟨Q,λ u x b=>U u x (by have:=Fh b;omega) b⟩);rw[Be] at Ek;have hr:=z.gr row N;rw[C2 (n:=(row.length:Int) - 1) AQ AQ,Be,C2 (n:=(v:Int)+1) AQ AQ];have Z:∀(f:Aa),f.length=n->(∀u:Nat,u≠v->f[u]?=h[u]?)->∀(u:Nat) x,u<v->d[u]?=some x->0<x->∃w row,f[u]?=some w/\g[u]?=some row/\w∈row/\d[w.toNat]?=some (x - 1):=by
   intro f _ K u x b a hx;rw[K u AQ];exact U u x b a hx
 obtain ⟨x,hx⟩:∃x,d[v]?=some x:=⟨_,Bp AQ⟩;refine tB (P:=λ e=>e.1.length=n/\(∀u:Nat,u≠v->e.1[u]?=h[u]?)/\(0<x->∃w row,e.1[v]?=some w/\g[v]?=some row/\w∈row/\d[w.toNat]?=some (x - 1))) (tL (λ s=>s.1.length=n/\(∀u:Nat,u≠v->s.1[u]?=h[u]?)/\(0<x->(∃(j:Nat) (w:Int),s.2<(j:Int)/\row[j]?=some w/\d[w.toNat]?=some (x - 1))->∃w row,s.1[v]?=some w/\g[v]?=some row/\w∈row/\d[w.toNat]?=some (x - 1))/\-1<=s.2/\s.2<(row.length:Int)) (λ s=>(s.2+1).toNat) ⟨by simpa using Q,λ u b=>by dsimp only;rw[List.getElem?_set,if_neg (λ e=>b e.symm)],λ HO=>?_,AR,AR⟩ ?_) ?_
 . rintro ⟨j,w,hj,B,_⟩;have:=Fh B;omega
 . rintro ⟨f,j⟩ ⟨k,l,H,p4,p5⟩;dsimp only at k;rw[PA.eq_1,EZ hx];have fin:(x<=0∨j=-1)->(0<x->∃w row,f[v]?=some w/\g[v]?=some row/\w∈row/\d[w.toNat]?=some (x - 1)):=by
     rintro hc HO;refine H HO ?_;rcases o v x hx with h | h | ⟨_,_,Bnf,w,T,V,W⟩
     . omega
     . omega
     . rw[Ek] at T;cases T;obtain ⟨E,I4,Y⟩:=List.getElem_of_mem V;exact ⟨E,w,AQ,by rw[Bp I4,Y],W⟩
   refine tD (λ h0=>?_) (λ h0=>tS ⟨k,l,fin AQ⟩);refine tD (λ HO=>tI AQ λ w B p=>?_) (λ hn=>tS ⟨k,l,fin AQ⟩);have a4:=hr.2 w p;have Byd:x<=24:=by rcases o v x hx with h | h | h<;>omega
   rw[C2 (n:=j - 1) AQ AQ,C2 (n:=x - 1) AQ AQ];refine tI AQ λ y q _=>tD (λ e=>tI AQ λ _ _ _=>tS ⟨⟨by simpa using k,?_,?_,AR,AR⟩,AR⟩) (λ EG=>tS ⟨⟨k,l,?_,AR,AR⟩,AR⟩)
   . intro u b;rw[Be,BG,if_neg (λ e=>b e.symm)];exact l u b
   . intro _ _;refine ⟨w,row,?_,Ek,p,by rw[q,e]⟩;exact gs AQ
   . rintro hp ⟨E,w',q1,R,S⟩;refine H hp ⟨E,w',?_,R,S⟩;rcases Int.lt_or_eq_of_le (show j<=(E:Int) by omega) with Bz0 | e
     . exact Bz0
     . subst e;rw[Be] at B;rw[B] at R;cases R;rw[q] at S;exact absurd (Bf S) EG
 . rintro ⟨f,j⟩ ⟨k,l,H⟩;refine tS ⟨⟨v+1,AT,AQ,k,?_⟩,AR⟩;intro u y b a q;by_cases e:u=v
   . subst e;rw[hx] at a;cases a;exact H q
   . exact Z f k l u y AQ a q
theorem Zi{n}{g}(m:GW n g)(b)(a2 a)(H:b.length=n)(h2:0<=a2/\a2<(n:Int))(B:0<=a/\a<(n:Int)):DU (Gr g b a2 a) (λ r=>r.length<=100/\(∀x∈r,0<=x/\x<(n:Int))/\∀d x,Gt g b a=some d->d[a2.toNat]?=some x->0<=x->r≠[]):=by
 unfold Gr;obtain ⟨d,E,K,j⟩:=Yf m b a H B;rw[E,Bd];refine tI AQ λ x hx _=>tD (λ Anz=>tS ⟨AT,all_nil,?_⟩) λ HO=>?_
 . intro T Z l f u;cases l;rw[hx] at f;have:=Bf f;omega
 refine tB (Bdo m b a H B) ?_;rintro h ⟨U,J9,N,q⟩;rw[E] at J9;cases J9;have Byd:x<=24:=by rcases j a2.toNat x hx with h | h | h<;>omega
 refine tB (P:=λ e=>e.1.length<=100/\(∀x∈e.1,0<=x/\x<(n:Int))/\e.1≠[]) (tL (λ s=>s.1≠[]/\(∀x∈s.1,0<=x/\x<(n:Int))/\(0<=s.2/\s.2<(n:Int))/\∃y,d[s.2.toNat]?=some y/\0<=y/\(s.1.length:Int)+y<=25) (λ s=>(d.getD s.2.toNat 0).toNat) ⟨AT,NA h2,h2,x,hx,AQ,AW⟩ ?_) (λ ⟨v,i⟩ o=>tS ⟨o.1,o.2.1,λ _ _ _ _ _=>o.2.2⟩);rintro ⟨p,v⟩ ⟨R,I,V,y,t,W,S⟩;dsimp only at S;refine tD (λ _=>tS ⟨AS,I,R⟩) λ EG=>tI AQ λ w Q _=>tG AQ λ _=>?_;rcases j v.toNat y t with e | ⟨e,f⟩ | ⟨e,_⟩
 . omega
 . omega
 . obtain ⟨Y,row,l,f,u,z⟩:=q v.toNat y t e;rw[Q] at l;cases l;have k:=(m.gr row (Bt f)).2 w u;refine tS ⟨⟨AT,Es I k,k,y - 1,z,AQ,AW⟩,?_⟩;simp only[Bu,t,z,BP];omega
theorem Qa{C B S}{n}(h:NW C B S n)(a1 a2)(j:0<=a1/\a1<(S:Int))(h2:1<=a2/\a2<=5):DU (It n a1 a2) (λ r=>r.length<=10/\∀x∈r,0<=x/\x<(C:Int)):=by
 have Ue:=h.ns;have NJ:=h.OZ;have:=h.bc
 unfold It;refine tB (P:=λ e=>e.1.length<=10/\∀x∈e.1,0<=x/\x<(C:Int)) (tL (λ s=>(s.1.length:Int)<=s.2/\(∀x∈s.1,0<=x/\x<(C:Int))/\1<=s.2/\s.2<=5) (λ s=>(6 - s.2).toNat) ⟨by dsimp only;simp only[List.length_nil];omega,all_nil,AR,AR⟩ ?_) (λ ⟨v,i⟩ b=>tS b);rintro ⟨v,i⟩ ⟨g,a,k,l⟩;dsimp only at g;refine tI AQ λ s _ f=>?_;have:=h.sp s f;rw[C2 (n:=s.base+i) AQ AQ,C2 (n:=s.base+i - 1) AQ AQ,C2 (n:=i+1) AQ AQ];refine tD (λ _=>tG AQ λ _=>tS ⟨⟨by dsimp only;rw[List.length_append];simp only[List.length_cons,List.length_nil];omega,Es a AQ,AR,AR⟩,AR⟩) (λ _=>tS ⟨AR,a⟩)
theorem Ac4{C B S}{n}(h:NW C B S n)(s)(a:SG C B s)(a2 a3)(a4)(h2:0<=a2/\a2<(B:Int))(b:0<=a3/\a3<(B:Int)):DU (IA n s a2 a3 a4) (λ r=>r.length=B):=by
 have:=h.nb;have:=a.cl;have:=h.bc;have:=h.OZ
 unfold IA;refine tG AQ λ _=>tG (by rw[BK];omega) λ _=>tC (λ _=>tI (by rw[BK];omega) λ _ _ _=>tS AW) (λ _=>tB (GV s a) λ c e=>tG AQ λ _=>tI AQ λ _ _ _=>tI (by rw[BK];omega) λ _ _ _=>tI AW λ _ _ _=>tS AW)
theorem ZK{C B S}{n}(h:NW C B S n)(s)(k:SG C B s)(a2 a3)(h2:0<=a2/\a2<(B:Int))(a:0<=a3/\a3<(B:Int)):DU (Js n s a2 a3) (λ r=>r.1.length<=100/\∀x∈r.1,0<=x/\x<(B:Int)):=by
 unfold Js;refine tB (P:=λ e=>match e with | .inl _=>True | .inr r=>r.1.length<=100/\∀x∈r.1,0<=x/\x<(B:Int)) (tL (λ i=>0<=i/\i<=2) (λ i=>(2 - i).toNat) AQ ?_) ?_
 . rintro i ⟨l,m⟩;refine tD (λ Dv=>tB (Ac4 h s k a2 a3 _ h2 a) λ b hb=>tB (Zi h.g b a2 a3 hb h2 a) λ p f=>tD (λ HO=>tG AQ λ _=>tS ⟨AW,Aqo (Aqn f.2.1)⟩) (λ _=>tS ?_)) (λ _=>tS trivial);rw[C2 AQ AQ];omega
 . rintro (v | r) j
   . exact tS ⟨AT,all_nil⟩
   . exact tS j
theorem Pj{C B}(s)(e:SG C B s)(l)(g:l.length<=1000)(a:∀x∈l,0<=x/\x<(C:Int)):DU (HD s l) (λ _=>True):=by
 have PV:=e.cl;unfold HD;refine tB (Nd (Q:=λ _=>True) l (λ _=>True) trivial ?_ ?_) ?_
 . intro i x hx b _ f;have:=a x b;refine tD (λ _=>?_) (λ h=>AQ);rw[EZ hx,Bd,EK AQ AQ (by omega:l.length<=100000000)];exact tI AQ λ _ _ _=>tC (λ _=>tS trivial) λ _=>tS ⟨rfl,trivial⟩
 . intro _;exact tD (λ h=>AQ) (λ _=>tS trivial)
 . rintro (v | r) _
   . exact tS trivial
   . exact tS trivial
theorem Ab6{B C:Nat}(h:B<=C){l:Aa}(a:∀x∈l,0<=x/\x<(B:Int)):∀x∈l,0<=x/\x<(C:Int):=λ x hx=>by have:=a x hx;omega
theorem Avg{C B S}{n}(h:NW C B S n)(s)(j:SG C B s)(a2 a3)(h2:0<=a2/\a2<(C:Int))(q:0<=a3/\a3<(S:Int)):DU (NT n s a2 a3) (λ r=>r.1.length<=500/\∀x∈r.1,0<=x/\x<(C:Int)):=by
 have NJ:=h.OZ;have f:=h.bc;have Ue:=h.ns
 unfold NT;refine tB (Md h a2 AQ) ?_;rintro ⟨z,u⟩ a;refine tD (λ e=>?_) (λ e=>tD (λ v=>?_) (λ v=>?_))
 . rcases a with a | a
   . omega
   rw[C2 AQ AQ];refine tB (Qa h a3 (u+1) q AQ) λ l o=>tB (Pj s j l AQ o.2) λ _ _=>tS ⟨AS,o.2⟩
 . rcases a with a | a
   . omega
   rw[C2 AQ AQ];refine tI AQ λ sp _ QU=>tB (Qa h z (u+1) AQ AQ) λ l o=>tG AQ λ _=>tI AQ λ k _ g=>?_;have H:=h.sp sp QU;have y:=h.sp k g
   refine tB (ZK h s j sp.out k.PJ AQ AQ) ?_;rintro ⟨p,w⟩ ⟨Ti,b⟩;dsimp only at Ti;have t:∀x∈l++[sp.out]++p,0<=x/\x<(C:Int):=Pu (Es o.2 AQ) (Ab6 f b);refine tG AW λ _=>tB (Qa h a3 1 q AQ) λ m i=>tG AW λ _=>tC (λ _=>tB (Pj s j _ AW (Pu t i.2)) λ _ _=>tC (λ _=>tS ⟨AW,Pu t i.2⟩) (λ _=>tS ⟨AT,all_nil⟩)) (λ _=>tS ⟨AT,all_nil⟩)
 . have E:a2<(B:Int):=by
     rcases a with a | a
     . exact Wq h a.2 h2.2
     . omega
   refine tI AQ λ k _ g=>?_;have y:=h.sp k g;refine tB (ZK h s j a2 k.PJ AQ AQ) ?_;rintro ⟨p,w⟩ ⟨Ti,b⟩;dsimp only at Ti;refine tG AQ λ _=>tB (Qa h a3 1 q AQ) λ m i=>tG AQ λ _=>tC (λ _=>tB (Pj s j _ AW (Pu (Ab6 f b) i.2)) λ _ _=>tC (λ _=>tS ⟨AW,Pu (Ab6 f b) i.2⟩) (λ _=>tS ⟨AT,all_nil⟩)) (λ _=>tS ⟨AT,all_nil⟩)
theorem Aua{C B S U}{n}(h:NW C B S n)(s)(E:SG C B s){o}{q}(K:LK C U o q)(a3 a4 a5)(h3:0<=a3/\a3<(B:Int))(V:0<=a5/\a5<(S:Int)):DU (My n s ⟨o,q⟩ a3 a4 a5) (λ r=>r.1.length<=500/\∀x∈r.1,0<=x/\x<(C:Int)):=by
 have NJ:=h.OZ;have j:=h.bc;have Ue:=h.ns;have a1:=h.nb;have PV:=E.cl;have a2:=K.ol;have a6:=K.ql;have a0:=h.g.gl
 unfold My;refine tI AQ λ sp _ QU=>tB (GV s E) λ c hc=>tG AQ λ _=>tG AW λ _=>?_;have w:=h.sp sp QU;refine tI AQ λ Q _ _=>tI AW λ _ _ _=>tI AW λ _ _ _=>?_;have u:(((c.take n.blocks.length).set sp.PJ.toNat Q).set a3.toNat true).length=B:=AW;obtain ⟨d,I,Y,W⟩:=Yf h.g _ sp.PJ u AQ;rw[I,Bd];refine tB (P:=λ e=>e.1=-1∨(0<=e.1/\e.1<(B:Int)/\∃x,d[e.1.toNat]?=some x/\0<=x)) (tL (λ t=>(t.1=-1∨(0<=t.1/\t.1<(B:Int)/\∃x,d[t.1.toNat]?=some x/\0<=x))/\0<=t.2/\t.2<=24) (λ t=>(24 - t.2).toNat) ⟨Or.inl rfl,AR,AR⟩ ?_) ?_
 . rintro ⟨b,k⟩ ⟨i,k2,k3⟩;refine tI AQ λ row Ek z=>tD (λ Dv=>tI AQ λ x _ hx=>?_) (λ _=>tS i);have hr:=h.g.gr row z;have KL:=hr.2 x hx;rw[C2 AQ AQ];have f:∀a:Int,(a=-1∨(0<=a/\a<(B:Int)/\∃x,d[a.toNat]?=some x/\0<=x))->((a=-1∨(0<=a/\a<(B:Int)/\∃x,d[a.toNat]?=some x/\0<=x))/\0<=k+1/\k+1<=24)/\(24 - (k+1)).toNat<(24 - k).toNat:=λ a hb=>⟨⟨hb,AQ,AQ⟩,AQ⟩;refine tD (λ _=>tS (f b i)) λ _=>tI AW λ _ _ _=>tC (λ _=>tS (f b i)) λ _=>tI AS λ _ _ _=>tD (λ _=>tI AS λ _ _ _=>tD (λ _=>tS (f b i)) λ _=>tI AQ λ H l _=>tD (λ _=>tS (f b i)) λ Z=>tD (λ _=>tS (f x (Or.inr ⟨KL.1,KL.2,H,l,AQ⟩))) λ v=>?_) (λ _=>tS (f b i));refine tI AQ λ _ _ _=>tD (λ _=>tS (f x (Or.inr ⟨KL.1,KL.2,H,l,AQ⟩))) λ _=>tS (f b i)
 . rintro ⟨b,k⟩ hb;refine tD (λ _=>tS ⟨AT,all_nil⟩) λ v=>?_;rcases hb with e | ⟨e1,e2,x,R,T⟩
   . omega
   refine tB (Zi h.g _ b sp.PJ u AQ AQ) λ p y=>tG (y.2.2 d x I R T) λ _=>tB (Qa h a5 1 V AQ) λ m N=>tG AQ λ _=>tB (Pj s E _ AW (Pu (Ab6 j y.2.1) N.2)) λ _ _=>tS ⟨AW,Pu (Ab6 j y.2.1) N.2⟩
theorem Aix{C B S}{n}(h:NW C B S n)(s)(b:SG C B s):DU (LN n s) (λ r=>r.length=B):=by
 have NJ:=h.OZ;have m:=h.bc;have a:=h.nb;have PV:=b.cl
 have RX:(s.closed.take n.blocks.length).length=B:=AW;unfold LN;refine tG AQ λ _=>tB (GV s b) λ c u=>tG AQ λ _=>tB (P:=λ e=>e.1.length=B) (tL (λ t=>t.1.length=B/\0<=t.2/\t.2<=(B:Int)) (λ t=>((B:Int) - t.2).toNat) ⟨by simp[a],AR,AR⟩ ?_) (λ ⟨v,i⟩ o=>tS o);rintro ⟨v,i⟩ ⟨k,q,E⟩;dsimp only at k;refine tD (λ Dv=>tB (Re _ _ i h.g RX AQ) λ f z=>tB (P:=λ _=>True) (tL (λ t=>0<=t.2.1/\t.2.1<=(B:Int)) (λ t=>((B:Int) - t.2.1).toNat) AR ?_) ?_) (λ _=>tS k)
 . rintro ⟨x,j,y⟩ ⟨l,H⟩;dsimp only at l;refine tD (λ Sb=>?_) (λ _=>tS trivial);rw[EK l Sb AQ];refine tI AQ λ _ _ _=>tC (λ _=>tS AR) λ _=>tC (λ _=>tC (λ _=>tS AR) λ _=>tB (Re _ _ j h.g RX AQ) λ w p=>tI AQ λ _ _ _=>tS AR) λ _=>tI AQ λ _ _ _=>tC (λ _=>tS AR) λ _=>tB (Re _ _ j h.g RX AQ) λ w p=>tI AQ λ _ _ _=>tS AR
 . rintro ⟨x,j,y⟩ _;rw[EK q Dv AQ];refine tC (λ _=>tI AQ λ _ _ _=>tS AU) (λ _=>tI AQ λ _ _ _=>tS AU)
theorem Ajj{C B S U}{n}(h:NW C B S n)(s)(p:SG C B s){o}{q}(f:LK C U o q)(Ac1)(used)(u:Ac1.length<=1000)(JE:∀r∈Ac1,r.length<=1000)(w:used.length=S):DU (NX n s ⟨o,q⟩ Ac1 used) (λ r=>r=true->s.CZ≠[]):=by
 have j:=h.bc;have Ue:=h.ns;have l:=f.ol;have m:=f.ql;have t:=h.s6
 unfold NX;refine tD (λ _=>tS (λ e=>by cases e)) λ EG=>tI AQ λ x _ hx=>?_;have KL:=p.pr x hx;have b:s.CZ≠[]:=by intro e;rw[e] at EG;simp at EG
 refine tI AS λ _ _ _=>tD (λ _=>tI AS λ _ _ _=>tD (λ _=>tS (λ e=>by cases e)) λ _=>?_) (λ _=>tS (λ e=>by cases e));refine tB (P:=λ _=>True) (Nd (Q:=λ _=>True) Ac1 (λ _=>True) trivial ?_ ?_) ?_
 . intro i r a g _ k;refine tD (λ _=>?_) (λ h=>AQ);rw[EZ a,Bd,EK AQ AQ (by omega:Ac1.length<=100000000)];exact tB (Mj r x (by have:=JE r g;omega)) λ _ _=>tC (λ _=>tS trivial) λ _=>tS ⟨rfl,trivial⟩
 . intro _;exact tD (λ h=>AQ) (λ _=>tS trivial)
 . rintro (v | r) _
   . refine tB (P:=λ _=>True) (Nd (Q:=λ _=>True) n.CT (λ _=>True) trivial ?_ ?_) ?_
     . intro i r a g _ k;refine tD (λ _=>?_) (λ h=>AQ);refine tI AQ λ _ _ _=>?_;rw[EZ a,Bd,EK AQ AQ (by omega:n.CT.length<=100000000)];exact tC (λ _=>tD (λ _=>tS trivial) λ _=>tD (λ _=>tS trivial) λ _=>tS ⟨rfl,trivial⟩) (λ _=>tS ⟨rfl,trivial⟩)
     . intro _;exact tD (λ h=>AQ) (λ _=>tS trivial)
     . rintro (v | r) _
       . exact tS λ _=>b
       . exact tS λ _=>b
   . exact tS λ _=>b
theorem KJ(u):DU (E5 u) (λ r=>r=(decide (u.state=0)||decide (u.state=1))):=by
 unfold E5;refine tD (λ e=>tS (by simp[e])) (λ e=>tS (by simp[e]))
theorem Ko(us)(f:us.length<=1000):DU (Ft us) (λ _=>True):=by
 unfold Ft;refine tB (P:=λ _=>True) (tL (λ s=>0<=s.2.2.2/\s.2.2.2<=(us.length:Int)) (λ s=>((us.length:Int) - s.2.2.2).toNat) AR ?_) (λ ⟨_,_,_,_⟩ _=>tS trivial);rintro ⟨a,b,c,i⟩ ⟨e,g⟩;dsimp only at e;refine tD (λ Dv=>?_) (λ _=>tS trivial);rw[EK e Dv AQ];refine tI AQ λ u _ _=>tD (λ _=>tB (KJ u) λ _ _=>tC (λ _=>tC (λ _=>tS AR) λ _=>tS AR) λ _=>tS AR) (λ _=>tB (KJ u) λ _ _=>tC (λ _=>tC (λ _=>tS AR) λ _=>tS AR) λ _=>tS AR)
theorem Aj2(us)(l:us.length<=1000):DU (Kf us) (λ r=>r=us.map (λ u=>if u.state=0∨u.state=1 then u.Eu else -2)):=by
 unfold Kf;refine tB (Aw3 (Q:=λ e=>e.1=us.map (λ u=>if u.state=0∨u.state=1 then u.Eu else -2)) us (λ u=>[if u.state=0∨u.state=1 then u.Eu else -2]) ?_ ?_) (λ ⟨_,_⟩ k=>tS k)
 . intro i x hx;have:=Fh hx;have hb:=Ka us i (λ u=>[if u.state=0∨u.state=1 then u.Eu else -2]) (by intro x;simp);rw[Pb.eq_1,EZ hx,C2 AQ AQ,Bi (by omega:(i:Int)<((us.length:Nat):Int)),Bm,Bd];obtain ⟨r,f,g⟩:=KJ x;have j:((us.take i).flatMap (λ u=>[if u.state=0∨u.state=1 then u.Eu else -2])).length+1<10000000:=AQ;rw[f,Bd,g,Bi j,Bm,Bm];by_cases a:x.state=0
   . simp[a]
   . by_cases b:x.state=1
     . simp[b]
     . simp[a,b]
 . rw[Pb.eq_1,Bj AQ,Bl];exact tS (To _ _)
theorem Aex{C B S}{n}(h:NW C B S n)(a1)(b:0<=a1/\a1<(S:Int)):DU (Kw n a1) (λ r=>(B:Int)<=r/\r<(C:Int)):=by
 have Ue:=h.ns;have:=h.OZ
 unfold Kw;refine tI AQ λ s _ a=>?_;have:=h.sp s a;rw[C2 (n:=s.base+s.Eg) AQ AQ,C2 AQ AQ];exact tS AQ
theorem An5{n}{g}(b:GW n g):DU (Ac5 g) (λ _=>True):=by
 unfold Ac5;refine tD (λ _=>tS trivial) λ _=>tB (P:=λ _=>True) (Nd (Q:=λ _=>True) g (λ _=>True) trivial ?_ ?_) ?_
 . intro i row a e _ f;have l:=(b.gr row e).1;rw[Ajz.eq_1,EK AQ AQ (by omega:g.length<=100000000)];refine tD (λ _=>tB (P:=λ _=>True) (Nd (Q:=λ _=>True) row (λ _=>True) trivial ?_ ?_) ?_) (λ h=>AQ)
   . intro j x hx _ _ k;rw[Aas.eq_1,EZ a,Bd,EK AQ AQ (by omega:row.length<=100000000)];refine tD (λ _=>?_) (λ h=>AQ);rw[EZ hx,Bd,C2 AQ AQ];refine tD (λ _=>tS trivial) λ _=>tD (λ _=>tS trivial) λ _=>tD (λ _=>tS trivial) λ _=>tD (λ _=>tI AQ λ _ _ _=>tD (λ _=>tS trivial) λ _=>tS ⟨rfl,trivial⟩) λ _=>tS ⟨rfl,trivial⟩
   . intro _;rw[Aas.eq_1,EZ a,Bd];exact tD (λ h=>AQ) (λ _=>tS trivial)
   . rintro (v | r) _
     . exact tS ⟨rfl,trivial⟩
     . exact tS trivial
 . intro _;exact tD (λ h=>AQ) (λ _=>tS trivial)
 . rintro (v | r) _
   . exact tS trivial
   . exact tS trivial
theorem Au4{n}{g}(e:GW n g)(a1)(m:a1.length=n):DU (Jb g a1) (λ _=>True):=by
 have l:=e.gl;have:=e.g24
 unfold Jb;have k:DU (S3 g a1) (λ _=>True):=by
   unfold S3;exact tB (An5 e) λ _ _=>tC (λ _=>tD (λ _=>tS trivial) λ _=>tS trivial) λ _=>tS trivial
 refine tB k λ _ _=>tD (λ _=>tB (P:=λ _=>True) (tL (λ s=>0<=s.2/\s.2<=(n:Int)) (λ s=>((n:Int) - s.2).toNat) AR ?_) ?_) (λ _=>tS trivial)
 . rintro ⟨a,i⟩ ⟨q,t⟩;refine tD (λ Dv=>?_) (λ _=>tS trivial);rw[C2 (n:=i+1) AQ AQ];refine tI AQ λ _ _ _=>tC (λ _=>tS AR) λ _=>tB (Re _ _ i e m AQ) λ f o=>tB (P:=λ _=>True) (Nd (Q:=λ _=>True) g (λ _=>True) trivial ?_ ?_) ?_
   . intro j x hx _ _ p;rw[M4.eq_1,EK AQ AQ (by omega:g.length<=100000000)];exact tD (λ _=>tI AQ λ _ _ _=>tC (λ _=>tS ⟨rfl,trivial⟩) λ _=>tI AQ λ _ _ _=>tC (λ _=>tS ⟨rfl,trivial⟩) λ _=>tS trivial) (λ h=>AQ)
   . intro _;exact tD (λ h=>AQ) (λ _=>tS trivial)
   . rintro (v | r) _
     . exact tS AR
     . exact tS trivial
 . rintro (⟨a,b⟩ | r) _
   . exact tS trivial
   . exact tS trivial
theorem Aiy{C B S}{n}(h:NW C B S n)(a1)(b:a1.length=C):DU (IJ n a1) (λ _=>True):=by
 have Ue:=h.ns;have e:=h.s6
 unfold IJ;refine tB (P:=λ _=>True) (tL (λ s=>0<=s.2/\s.2<=(S:Int)) (λ s=>((S:Int) - s.2).toNat) AR ?_) (λ ⟨_,_⟩ _=>tS trivial);rintro ⟨a,i⟩ ⟨f,g⟩;refine tD (λ Dv=>?_) (λ _=>tS trivial);rw[C2 (n:=i+1) AQ AQ];refine tI AQ λ _ _ _=>tC (λ _=>tB (TX h a1 i b AQ) λ _ _=>tC (λ _=>tS AR) λ _=>tS AR) λ _=>tS AR
theorem MX{C B S}{n}(h:NW C B S n)(a1)(a2)(e:a1.length=C):DU (GX n a1 a2) (λ _=>True):=by
 have:=h.nb;have:=h.bc
 unfold GX;refine tG AQ λ _=>tB (Au4 h.g _ AW) ?_;rintro ⟨a,b⟩ _;exact tC (λ _=>tB (Aiy h a1 e) λ _ _=>tS trivial) λ _=>tS trivial
theorem Aqu{C B S}{n}(h:NW C B S n)(a1)(a2 a3)(b:a1.length=C)(h2:0<=a2/\a2<(C:Int)):DU (K8 n a1 a2 a3) (λ _=>True):=by
 have:=h.OZ;unfold K8;have e:DU (KW a1 a2) (λ r=>r.length=C):=by
   unfold KW;exact tG AQ λ _=>tI AQ λ _ _ _=>tS (by simpa using b)
 exact tI AQ λ _ _ _=>tC (λ _=>tS trivial) λ _=>tB e λ w a=>tB (MX h w a3 a) λ _ _=>tS trivial
theorem Aq9{C B S}{n}(h:NW C B S n)(a1):DU (Jv n a1) (λ r=>r=0->0<=a1/\a1<(C:Int)):=by
 unfold Jv;rw[h.vd,Bd,Bm,h.cs];exact tD (λ _=>tS (λ e=>AQ)) λ _=>tD (λ _=>tS (λ e=>AQ)) λ _=>tS (λ _=>AQ)
theorem Au3{C B S}{n}(h:NW C B S n)(a1)(k:0<=a1/\a1<(C:Int)):DU (KX n a1) (λ r=>r.length<=1000):=by
 have Ue:=h.ns;have q:=h.s6;have NJ:=h.OZ;have l:=h.g.gl;have j:=h.g.g24
 unfold KX;refine tB (Md h a1 AQ) ?_;rintro ⟨f,z⟩ a;refine tD (λ p=>?_) λ u=>?_
 . have hx:0<=f/\f<(S:Int):=by rcases a with e | e<;>omega
   exact tB (Aex h f hx) λ _ _=>tD (λ _=>tI AQ λ _ _ _=>tS AT) λ _=>tS AT
 . have t:a1<(B:Int):=by
     rcases a with a | a
     . exact Wq h a.2 k.2
     . omega
   refine tI AQ λ row _ b=>?_;have w:=(h.g.gr row b).1;refine tG AQ λ _=>tB (P:=λ e=>e.1.length<=1000) (tL (λ s=>(s.1.length:Int)<=24+s.2/\0<=s.2/\s.2<=(S:Int)) (λ s=>((S:Int) - s.2).toNat) AR ?_) (λ ⟨_,_⟩ m=>tS m);rintro ⟨v,i⟩ ⟨o,x,y⟩;dsimp only at o;refine tD (λ Dv=>tI AQ λ _ _ _=>?_) (λ _=>tS AR);rw[C2 (n:=i+1) AQ AQ];exact tD (λ _=>tG AQ λ _=>tS AU) λ _=>tS AR
theorem Aa0{C B S}{n}(h:NW C B S n)(a1 a2):DU (Jx n a1 a2) (λ r=>r=true->0<=a2/\a2<(C:Int)):=by
 unfold Jx;refine tB (Aq9 h a1) λ x hx=>tD (λ e=>tB (Aq9 h a2) λ y b=>tD (λ a=>tB (Au3 h a1 (hx e)) λ l f=>tB (Mj l a2 AQ) λ _ _=>tS (λ _=>b a)) (λ _=>tS (λ e=>by cases e))) (λ _=>tS (λ e=>by cases e))
theorem tJ{α β:Type}{l:List α}{i}{v}{f}{Q:β->Prop}(h:0<=i/\i<(l.length:Int))(k:DU (f v) Q):DU (Option.bind (CU (l.set i.toNat v) i) f) Q:=by
 refine tI (by rw[Bv];exact h) λ x hx _=>?_;rw[gs AQ] at hx;cases hx;exact k
theorem tT{α β:Type}{x}{f:α->Option β}{Q:β->Prop}{a:α}(h:x=some a)(k:DU (f a) Q):DU (Option.bind x f) Q:=by rw[h];exact k
def DX.net(d:DX):Nt:=⟨d.blocks,d.next,d.CT,d.C7,d.cq,d.ca,d.cd,d.cp⟩
def DX.sg(d:DX):Mc:=⟨d.closed,d.Dm,d.CZ⟩
def KD(u:KM):Int:=if u.E9=-1 then u.cell else u.E9
def core(u:KM):Int×Int×Int×Int×Int:=(u.state,u.cell,u.E9,u.DY,u.Du)
structure DK(C B S U T:Nat)(d:DX):Prop where
 n:NW C B S d.net
 k:LK C U d.CP d.CQ
 s:SG C B d.sg
 ul:d.CN.length=U
 uo:∀u∈d.CN,Vt C S T u
 tl:d.CR.length=T
 t32:T<=32
 to:∀t∈d.CR,TOK S U t
theorem DK.N4{C B S U T}{d}(h:DK C B S U T d)(i)(v)(a:Vt C S T v):DK C B S U T {d with CN:=d.CN.set i v}:=
 ⟨h.n,h.k,h.s,by rw[Bv];exact h.ul,EM h.uo a,h.tl,h.t32,h.to⟩
theorem YK(u):IK u=some (KD u):=by
 unfold IK KD;by_cases e:u.E9=-1<;>simp[e]
theorem Vt.last{C S T}{u}(h:Vt C S T u):-1<=KD u/\KD u<(C:Int):=by unfold KD;split;exact h.ce;exact h.tt
theorem Vt.Aco{C S T}{u}(h:Vt C S T u)(a:u.state=1):0<=KD u:=by
 have:=h.ac a;have:=h.tt;unfold KD;split<;>omega
theorem D2{α β:Type}{f:α->β}{l:List α}{i}{x v}(h:l[i]?=some x)(e:f v=f x):(l.set i v).map f=l.map f:=by
 apply List.ext_getElem?;intro j;rw[BD,BG];by_cases c:i=j
 . subst c;rw[if_pos rfl,if_pos (Fh h),BD,h];simp[e]
 . rw[if_neg c,BD]
theorem XD{C B S}{n}(h:NW C B S n)(a1)(l:-1<=a1/\a1<(C:Int)):DU (K0 n a1) (λ r=>r.length<=100/\∀x∈r,0<=x/\x<(C:Int)):=by
 have NJ:=h.OZ;have Ue:=h.ns
 unfold K0;refine tB (Md h a1 AQ) ?_;rintro ⟨p,q⟩ a;rw[C2 AQ AQ];refine tB (P:=λ e=>e.1.length<=100/\∀x∈e.1,0<=x/\x<(C:Int)) (tL (λ s=>(s.1.length:Int)<=s.2/\(∀x∈s.1,0<=x/\x<(C:Int))/\0<=s.2/\s.2<=(C:Int)+1) (λ s=>((C:Int)+1 - s.2).toNat) ⟨by dsimp only;simp only[List.length_nil];omega,all_nil,AR,AR⟩ ?_) (λ ⟨v,i⟩ f=>tS f);rintro ⟨v,i⟩ ⟨j,b,m,o⟩;dsimp only at j;refine tD (λ k=>?_) (λ _=>tS ⟨AR,b⟩);rcases a with a | a
 . omega
 refine tI AQ λ s _ g=>?_;have:=h.sp s g;rw[C2 (n:=s.base+s.Eg) AQ AQ,C2 (n:=i+1) AQ AQ];refine tD (λ _=>tG AQ λ _=>tS ⟨⟨by dsimp only;rw[List.length_append];simp only[List.length_cons,List.length_nil];omega,Es b AQ,AR,AR⟩,AR⟩) (λ _=>tS ⟨AR,b⟩)
theorem Ab0{C B S}{n}(h:NW C B S n)(a1)(a:a1<(C:Int)):DU (K1 n a1) (λ r=>-1<=r/\r<(S:Int)):=by
 have NJ:=h.OZ;have Ue:=h.ns
 unfold K1;refine tD (λ _=>tS AQ) λ _=>tB (Md h a1 AQ) ?_;rintro ⟨e,f⟩ b;exact tD (λ _=>tI AQ λ _ _ _=>tC (λ _=>tS AQ) λ _=>tS AQ) λ _=>tS AQ
theorem Fj(d)(a b c)(h:d.CO.length<=1000000):DU (Hz d a b c) (λ r=>r=d.CO++[⟨0,a,b,c⟩]/\r.length=d.CO.length+1):=by
 unfold Hz;exact tG AQ λ _=>tS ⟨rfl,AT⟩
theorem Y8(d)(a)(x)(h:d.CO.length<=1000000)(b:0<=a/\a<(d.CN.length:Int))(hx:d.CN[a.toNat]?=some x):DU (Rz d a) (λ r=>r.1=d.CN.set a.toNat {x with state:=3,Eu:=-2}/\r.2.length=d.CO.length+1):=by
 unfold Rz;refine tI b λ y e _=>tJ b ?_;obtain rfl:x=y:=by rw[hx] at e;exact Bf e
 rw[Cp];exact tB (Fj _ _ _ _ h) λ r f=>tS ⟨rfl,f.2⟩
theorem L9{C B S U T}{d}(h:DK C B S U T d)(a)(t:0<=a/\a<(U:Int))(g:d.CO.length<=1000000):DU (GR d a) (λ r=>DK C B S U T {d with CP:=r.1,CQ:=r.2.1,CN:=r.2.2.1,CO:=r.2.2.2}/\r.1=d.CP/\r.2.2.1.map core=d.CN.map core/\r.2.2.1.length=d.CN.length/\r.2.2.2.length<=d.CO.length+1):=by
 have o:=h.ul;have q:=h.k.u8
 unfold GR;refine tB (Ajk h.k a AQ) ?_;rintro ⟨l,c,e⟩ i;rcases i with ⟨b,_⟩ | ⟨b,h2,f,_⟩
 . exact tD (λ h=>absurd h b) λ _=>tS ⟨h,rfl,rfl,rfl,AR⟩
 . refine tD (λ _=>tI AQ λ x hx j=>tB (Fj _ _ _ _ g) λ r m=>tS ?_) (λ h=>absurd b h);have p:Vt C S T {x with wait:=0}:=by have:=h.uo x j;exact ⟨this.1,this.2,this.3,this.4,this.5,this.6,this.7⟩
   refine ⟨⟨h.n,by dsimp only;rw[h2];exact f,h.s,by simpa using o,EM h.uo p,h.tl,h.t32,h.to⟩,h2,D2 hx rfl,AT,by have:=m.2;dsimp only at this ⊢;omega⟩
theorem Y9{C B S U T}{d}(h:DK C B S U T d)(u)(g:Vt C S T u):DU (Mp d u) (λ r=>-2<=r/\r<(S:Int)/\(u.Du=1∨u.Du=2->0<=u.DY->0<=r)):=by
 have hm:=g.hm;have tk:=g.tk;have RX:=h.tl
 unfold Mp;refine tD (λ e=>tS ⟨hm.1,hm.2,λ b=>AQ⟩) λ _=>tD (λ i=>tD (λ a=>tI AQ λ t _ f=>tS ?_) λ a=>tD (λ j=>AQ) λ _=>tS ⟨AQ,AQ,λ _ b=>absurd b a⟩) λ _=>tD (λ i=>tD (λ a=>tI AQ λ t _ f=>tS ?_) λ a=>tS ⟨AQ,AQ,λ _ b=>absurd b a⟩) λ _=>tS ⟨AQ,AQ,λ b=>AQ⟩
 . have:=(h.to t f).pk;exact ⟨AQ,AQ,λ _ _=>AQ⟩
 . have:=(h.to t f).dr;exact ⟨AQ,AQ,λ _ _=>AQ⟩
theorem Apy{C B S U T}{d}(h:DK C B S U T d)(u)(a:Vt C S T u):DU (JC d u) (λ _=>True):=by
 have PV:=h.s.cl;have e:=a.rl;unfold JC;refine tB (P:=λ _=>True) (Nd (Q:=λ _=>True) u.Db (λ _=>True) trivial ?_ ?_) ?_
 . intro i x hx b _ j;have:=a.rt x b;refine tD (λ _=>?_) (λ h=>AQ);rw[EZ hx,Bd,EK AQ AQ (by omega:u.Db.length<=100000000)];exact tI (by unfold DX.sg at PV;dsimp only at PV;omega) λ _ _ _=>tC (λ _=>tS trivial) λ _=>tS ⟨rfl,trivial⟩
 . intro _;exact tD (λ h=>AQ) (λ _=>tS trivial)
 . rintro (v | r) _
   . refine tB (Y9 h u a) λ g f=>tD (λ _=>tD (λ _=>tT (YK u) (tB (Aex h.n g AQ) λ _ _=>tS trivial)) λ _=>tS trivial) λ _=>tS trivial
   . exact tS trivial
theorem u7{C B S U T}{d}(h:DK C B S U T d)(u)(f:Vt C S T u):DU (NK d u) (λ r=>r.2=true->u.state=1/\u.Du=0):=by
 unfold NK;refine tD (λ e=>tD (λ b=>tD (λ _=>tB (Ab0 h.n u.cell f.ce.2) λ r g=>tD (λ _=>tB (Aex h.n r AQ) λ _ _=>tS (λ _=>⟨e,b⟩)) λ _=>tS (λ a=>by cases a)) λ _=>tS (λ a=>by cases a)) λ _=>tS (λ a=>by cases a)) λ _=>tS (λ a=>by cases a)
theorem Ail{C B S U T}{d}(h:DK C B S U T d):DU (Ut d) (λ r=>r.length=C):=by
 unfold Ut;exact tB (GV _ h.s) λ r a=>tS a
theorem Atg{C B S U T}{d}(h:DK C B S U T d):DU (TM d) (λ _=>True):=by
 have:=h.ul;have:=h.k.u8
 unfold TM;refine tB (Ko _ AQ) ?_;rintro ⟨a,b,c⟩ _;exact tB (Ail h) λ s e=>tB (MX h.n s b e) λ _ _=>tC (λ _=>tS trivial) λ _=>tS trivial
theorem Apg{C B S U T}{d}(h:DK C B S U T d)(a)(f:0<=a/\a<(S:Int)):DU (QH d a) (λ _=>True):=by
 have PV:d.closed.length=C:=h.s.cl;have Ue:d.CT.length=S:=h.n.ns;have NJ:=h.n.OZ;have:=h.n.bc
 unfold QH;refine tI AQ λ s _ b=>tB (Aix h.n _ h.s) λ k e=>?_;have:=h.n.sp s b;refine tB (P:=λ _=>True) (tL (λ i=>s.base<=i/\i<=s.base+s.Eg) (λ i=>(s.base+s.Eg - i).toNat) AQ ?_) ?_
 . rintro i ⟨g,j⟩;rw[Wj.eq_1,C2 (n:=s.base+s.Eg) AQ AQ,C2 (n:=i+1) AQ AQ];exact tD (λ _=>tI AQ λ _ _ _=>tC (λ _=>tS trivial) λ _=>tS AR) λ _=>tS trivial
 . rintro (v | r) _
   . exact tI AQ λ _ _ _=>tC (λ _=>tI AQ λ _ _ _=>tS trivial) λ _=>tS trivial
   . exact tS trivial
theorem Aeg{C B S U T}{d}(h:DK C B S U T d)(a)(e:0<=a/\a<(T:Int)):DU (QK d a) (λ _=>True):=by
 have Ue:d.CT.length=S:=h.n.ns;have RX:=h.tl;have b:=h.n.s6
 unfold QK;refine tB (P:=λ _=>True) (tL (λ i=>0<=i/\i<=(S:Int)) (λ i=>((S:Int) - i).toNat) AQ ?_) ?_
 . rintro i ⟨f,g⟩;refine tD (λ Dv=>?_) λ _=>tS trivial;rw[C2 (n:=i+1) AQ AQ];exact tI AQ λ t _ _=>tB (Zu t i) λ _ _=>tC (λ _=>tB (Apg h i AQ) λ _ _=>tC (λ _=>tS AR) λ _=>tS trivial) λ _=>tS AR
 . rintro (v | r) _
   . exact tS trivial
   . exact tS trivial
theorem Ban{C B S U T}{d}(h:DK C B S U T d)(u)(f:Vt C S T u):DU (XY d u) (λ r=>r=true->u.state=1):=by
 have PV:d.closed.length=C:=h.s.cl;have Ue:d.CT.length=S:=h.n.ns;have NJ:=h.n.OZ;have:=h.n.bc
 unfold XY;refine tD (λ e=>tB (Aix h.n _ h.s) λ z q=>tT (YK u) ?_) λ _=>tS (λ j=>by cases j);have k:=f.last;have m:=f.Aco e
 refine tB (Md h.n (KD u) AQ) ?_;rintro ⟨E,H⟩ a;refine tD (λ y=>?_) λ g=>?_
 . have t:KD u<(B:Int):=by
     rcases a with a | a
     . exact Wq h.n a.2 k.2
     . omega
   exact tI AQ λ _ _ _=>tS λ _=>e
 . refine tB (XD h.n (KD u) AQ) λ l b=>tB (P:=λ _=>True) (Nd (Q:=λ _=>True) l (λ _=>True) trivial ?_ ?_) ?_
   . intro i x hx o _ w;have:=b.2 x o;refine tD (λ _=>?_) (λ h=>AQ);rw[EZ hx,Bd,EK AQ AQ (by omega:l.length<=100000000)];exact tI AQ λ _ _ _=>tC (λ _=>tS trivial) λ _=>tS ⟨rfl,trivial⟩
   . intro _;exact tD (λ h=>AQ) (λ _=>tS trivial)
   . rintro (v | r) _
     . refine tD (λ _=>tS λ _=>e) λ _=>tI (by rcases a with a | a<;>omega) λ s _ p=>?_;have:=h.n.sp s p;exact tI AQ λ _ _ _=>tS λ _=>e
     . exact tS λ _=>e
theorem Vq{C B S U T}{d}(h:DK C B S U T d):DU (Iq d) (λ r=>r.length<=U/\∀x∈r,0<=x/\x<(U:Int)/\∃u,d.CN[x.toNat]?=some u/\u.state=1):=by
 have OS:=h.ul;have:=h.k.u8
 unfold Iq;refine tB (P:=λ e=>e.1.length<=U/\∀x∈e.1,0<=x/\x<(U:Int)/\∃u,d.CN[x.toNat]?=some u/\u.state=1) (tL (λ s=>(s.1.length:Int)<=s.2/\(∀x∈s.1,0<=x/\x<(U:Int)/\∃u,d.CN[x.toNat]?=some u/\u.state=1)/\0<=s.2/\s.2<=(U:Int)) (λ s=>((U:Int) - s.2).toNat) ⟨AT,all_nil,AR,AR⟩ ?_) (λ ⟨v,i⟩ f=>tS f);rintro ⟨v,i⟩ ⟨l,a,m,n⟩;dsimp only at l;refine tD (λ Dv=>?_) λ _=>tS ⟨AR,a⟩;rw[C2 AQ AQ];refine tI AQ λ u j g=>tB (Ban h u (h.uo u g)) λ b hb=>tC (λ e=>tG AQ λ _=>tS ⟨⟨?_,Es a ⟨AQ,AQ,u,j,hb e⟩,AR,AR⟩,AR⟩) λ _=>tS ⟨⟨AR,a,AR,AR⟩,AR⟩;rw[Bw];simp only[Br,Bx];omega
theorem DK.Bcl{C B S U T}{d}(h:DK C B S U T d)(s)(a:SG C B s):DK C B S U T {d with closed:=s.closed,Dm:=s.Dm,CZ:=s.CZ}:=
 ⟨h.n,h.k,a,h.ul,h.uo,h.tl,h.t32,h.to⟩
theorem Ag2{C B S U T}{d}(h:DK C B S U T d)(a)(e:0<=a/\a<(C:Int)):DU (MT d a) (λ _=>True):=by
 have RX:=h.tl;have:=h.t32
 unfold MT;refine tB (Q1 _ a (-1) h.s e) λ s f=>?_;have h2:=h.Bcl s f.1;refine tB (Vq h2) λ l _=>tB (P:=λ _=>True) (tL (λ s=>0<=s.2/\s.2<=(T:Int)) (λ s=>((T:Int) - s.2).toNat) AR ?_) (λ ⟨_,_⟩ _=>tS trivial);rintro ⟨b,i⟩ ⟨g,j⟩;refine tD (λ Dv=>?_) λ _=>tS trivial;rw[C2 AQ AQ];exact tC (λ _=>tB (Aeg h2 i AQ) λ _ _=>tS AR) λ _=>tS AR
theorem TO{C B S U T}{d}(h:DK C B S U T d)(a)(p:a<(S:Int)):DU (X5 d a) (λ r=>r.1<0∨(0<=r.1/\r.1<(U:Int)/\∃u,d.CN[r.1.toNat]?=some u/\u.state=1/\u.Du=0)):=by
 have OS:=h.ul;have:=h.k.u8
 unfold X5;refine tB (P:=λ e=>e.1<0∨(0<=e.1/\e.1<(U:Int)/\∃u,d.CN[e.1.toNat]?=some u/\u.state=1/\u.Du=0)) (tL (λ s=>(s.1<0∨(0<=s.1/\s.1<(U:Int)/\∃u,d.CN[s.1.toNat]?=some u/\u.state=1/\u.Du=0))/\0<=s.2.2.2/\s.2.2.2<=(U:Int)) (λ s=>((U:Int) - s.2.2.2).toNat) ⟨Or.inl AS,AR,AR⟩ ?_) (λ ⟨_,_,_,_⟩ m=>tS m);rintro ⟨b,le,y,i⟩ ⟨f,j,t⟩;dsimp only at j;refine tD (λ Dv=>?_) λ _=>tS f;rw[C2 AQ AQ];refine tI AQ λ u o g=>tB (u7 h u (h.uo u g)) ?_;rintro ⟨x,v⟩ Ru;have Hx:=h.uo u g;refine tC (λ e=>tD (λ _=>tC (λ _=>tS ⟨⟨f,AR,AR⟩,AR⟩) λ _=>tD (λ _=>tS ⟨⟨f,AR,AR⟩,AR⟩) λ _=>tB (Avg h.n _ h.s u.cell a (by have:=Hx.ac (Ru e).1;have:=Hx.ce;omega) AQ) ?_) λ _=>tS ⟨⟨f,AR,AR⟩,AR⟩) λ _=>tS ⟨⟨f,AR,AR⟩,AR⟩;rintro ⟨w,q⟩ _;have l:i<0∨(0<=i/\i<(U:Int)/\∃u,d.CN[i.toNat]?=some u/\u.state=1/\u.Du=0):=Or.inr ⟨j,AQ,u,o,Ru e⟩;exact tC (λ _=>tD (λ _=>tS ⟨⟨l,AR,AR⟩,AR⟩) λ _=>tD (λ _=>tS ⟨⟨l,AR,AR⟩,AR⟩) λ _=>tS ⟨⟨f,AR,AR⟩,AR⟩) λ _=>tS ⟨⟨f,AR,AR⟩,AR⟩
end Go.Am
end
