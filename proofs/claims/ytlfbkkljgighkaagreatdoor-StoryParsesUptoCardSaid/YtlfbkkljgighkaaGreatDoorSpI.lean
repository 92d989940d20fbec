/- Texts of this proof, what it rests on, merged: part I. -/
import Derived.Test.YtlfbkkljgighkaaGreatDoorSpH
noncomputable section
namespace Go.Am
open Go Go.Proofs
open Go.IntKind (i64)
open Tryz
set_option maxRecDepth 100000
set_option linter.unusedVariables false
set_option linter.unusedSimpArgs false
set_option maxHeartbeats 2000000
def Mz(a:KP)(f:O6)(b:WR)(e:Int):Option (Bool):=
 cond (f.cell=(-1)) (cond (e=1) (cond (a.state=1) (cond (a.Ff=(-1)) (some false) (some (decide (b.last<a.seq)))) (some false)) (cond (e=2) ((Fm f).bind λ Nr=>cond Nr (some (!decide (b.Ff=(-1)))) (some false)) (cond (e=3) (some false) (cond (e=4) (some false) (cond (a.state=1) (cond (b.last=a.seq) (cond (b.Ix=0) (some false) (cond (a.Ff=(-1)) (cond (b.Ix=2) (some a.DH) (some false)) (some true))) (some false)) (some false)))))) (cond (e=1) (cond (a.state=1) (cond (a.Ff=(-1)) (some false) (some (decide (b.last<a.seq)))) (some false)) (cond (e=2) ((Fm f).bind λ Lq=>cond Lq (some (!decide (b.Ff=(-1)))) (some false)) (cond (e=3) (cond f.H5 (some false) (some (!decide (f.Ff=(-1))))) (cond (e=4) (cond f.H5 (some false) (some f.Qe)) (cond (a.state=1) (cond (b.last=a.seq) (cond (b.Ix=0) (some false) (cond (a.Ff=(-1)) (cond (b.Ix=2) (some a.DH) (some false)) (some true))) (some false)) (some false))))))
theorem Afw{b e f g r}(a:Mz b e f g=some r):
   Rq 75 [.agg b.c,.agg e.c,.agg f.c,iD g] [] [] (bD r):=by
 refine EA func75 Bfu ?_;unfold Mz at a;refine Dd [0,0,0,0,0,0,0,0,0,0,0,0,0] ?_;obtain ⟨_,a⟩ | ⟨_,a⟩:=cE a
 . obtain ⟨_,a⟩ | ⟨_,a⟩:=cE a
   . obtain ⟨_,a⟩ | ⟨_,a⟩:=cE a
     . obtain ⟨_,a⟩ | ⟨_,a⟩:=cE a
       . obtain ⟨_,a⟩ | ⟨_,a⟩:=cE a
         . refine cP a λ _ a=>?_;refine cP a λ _ a=>?_;obtain ⟨_,a⟩ | ⟨_,a⟩:=cE a
           . refine cP a λ _ a=>?_;refine cP a λ _ a=>?_;exact zP a
           exact zP a
         refine cP a λ _ a=>?_;exact zP a
       refine cP a λ _ a=>?_;exact zP a
     refine Ec a Hg λ _ a=>?_;refine cP a λ _ a=>?_;exact zP a
   refine cP a λ _ a=>?_;refine cP a λ _ a=>?_;exact zP a
 obtain ⟨_,a⟩ | ⟨_,a⟩:=cE a
 . obtain ⟨_,a⟩ | ⟨_,a⟩:=cE a
   . obtain ⟨_,a⟩ | ⟨_,a⟩:=cE a
     . obtain ⟨_,a⟩ | ⟨_,a⟩:=cE a
       . refine cP a λ _ a=>?_;refine cP a λ _ a=>?_;obtain ⟨_,a⟩ | ⟨_,a⟩:=cE a
         . refine cP a λ _ a=>?_;refine cP a λ _ a=>?_;exact zP a
         exact zP a
       exact zP a
     exact zP a
   refine Ec a Hg λ _ a=>?_;refine cP a λ _ a=>?_;exact zP a
 refine cP a λ _ a=>?_;refine cP a λ _ a=>?_;exact zP a
def Ah4(b:O5)(a:Int):(List Dty)×Int->Option (((List Dty)×Int)⊕(((List Dty)×Int)))
 | (Hu,H3)=>cond (H3<=5) ((CU b.CO a).bind λ P1=>(CU b.CX a).bind λ Nr=>(CU b.CY a).bind λ OS=>(Mz P1 Nr OS H3).bind λ NH=>cond NH (cond (Hu.length+1<10000000) (some (.inl ((Hu++[(⟨a,H3,0⟩:Dty)]),(i64.wrap (H3+1))))) none) (some (.inl (Hu,(i64.wrap (H3+1)))))) (some (.inr (Hu,H3)))
def Ah3(b:O5):(List Dty)×Int->Option (((List Dty)×Int)⊕(((List Dty)×Int)))
 | (e,a)=>(II b).bind λ Ir=>cond (a<Ir) ((C9 (Ah4 b a) (e,1)).bind (λ (v39,v40)=>some (.inl (v39,(i64.wrap (a+1)))))) (some (.inr (e,a)))
def SP(a:O5):Option ((List Dty)):=
 (C9 (Ah3 a) ([],0)).bind (λ (v41,v42)=>some v41)
theorem Aro{a r}(b:SP a=some r):
   Rq 41 [.agg [sD (CT a.CQ),sD (DA a.CR),sD (Dn a.closed),sD (CT a.Dp),sD (CT a.C0),sD (Ed a.CO),sD (DF a.CS),bD a.C7,sD (Ek a.CX),sD (ED a.CY),sD (Da a.down),sD (Da a.up)]] [] [] (sD (Jo r)):=by
 refine EA func41 Bgl ?_;unfold SP at b;obtain ⟨j,i,b⟩:=bE b;refine A ?_;refine EX i (λ q=>⟨[(1,.ptr 1 0),(3,rD 39 q.1),(4,iD q.2)],[(1,.box [sD (CT a.CQ),sD (DA a.CR),sD (Dn a.closed),sD (CT a.Dp),sD (CT a.C0),sD (Ed a.CO),sD (DF a.CS),bD a.C7,sD (Ek a.CX),sD (ED a.CY),sD (Da a.down),sD (Da a.up)]),(39,.arr 127 3 (Jo q.1))],41⟩) ((Wk.nil (t:=3) (q:=39) (sz:=3) 127 rfl rfl AV).trans WL) ?_;rintro ⟨k,l⟩ _ EU Y9;rw[Ah3.eq_1] at EU;refine Fy EU R0 λ _ EU=>?_;obtain ⟨_,EU⟩ | ⟨_,EU⟩:=cK EU
 . cases kR EU;exact zP b
 obtain ⟨g,f,EU⟩:=bK EU;refine H2 f [1,4] [1] (λ q=>[(3,rD 39 q.1),(5,iD q.2)]) (λ q=>[(39,.arr 127 3 (Jo q.1))]) ?_;rintro ⟨Hu,H3⟩ _ GV Axi;rw[Ah4.eq_1] at GV;obtain ⟨_,GV⟩ | ⟨_,GV⟩:=cK GV
 . cases kR GV;exact AL (Y9 _ _ (kI EU))
 refine Dd [0,0,0,0,0,0,0,0,0,0,0,0,0,0,0,0,0,3] ?_;obtain ⟨_,GV,_⟩:=jK Db GV;obtain ⟨_,GV,_⟩:=jK TT GV;obtain ⟨_,GV,_⟩:=jK Lk GV;refine Sc GV Afw λ _ GV=>?_;obtain ⟨_,GV⟩ | ⟨_,GV⟩:=cK GV
 . exact AL (Axi _ _ (kI GV))
 obtain ⟨e,GV⟩:=gK GV;refine He e ?_;exact AL (Axi _ _ (kI GV))
def ZK(e:O5)(b:Dty)(G3:WR):Int->Option ((Int)⊕(Int⊕(G9×Bool)))
 | a=>(CU e.up b.CZ).bind λ Nr=>cond (a<(Nr.length:Int)) ((CU Nr a).bind λ Sd=>cond (Sd.kind=2) (cond (Sd.seq=G3.last) (cond (Sd.flag=G3.Ix) (some (.inr (.inr ((((⟨3,b.CZ,a,[]⟩:G9),true):G9×Bool))))) (some (.inl (i64.wrap (a+1))))) (some (.inl (i64.wrap (a+1))))) (some (.inl (i64.wrap (a+1))))) (some (.inr (.inl a)))
def ZJ(g:O5)(f:Dty)(i:KP):Int->Option ((Int)⊕(Int⊕(G9×Bool)))
 | a=>(CU g.down f.CZ).bind λ b=>cond (a<(b.length:Int)) ((CU b a).bind λ e=>cond (e.kind=1) (cond (e.seq=i.seq) (some (.inr (.inr ((((⟨2,f.CZ,a,[]⟩:G9),true):G9×Bool))))) (some (.inl (i64.wrap (a+1))))) (some (.inl (i64.wrap (a+1))))) (some (.inr (.inl a)))
def LJ(b:O5)(a:Dty):Option (G9×Bool):=
 cond (a.CZ<0) (some ((⟨0,0,0,[]⟩:G9),false)) ((II b).bind λ k=>cond (k<=a.CZ) (some ((⟨0,0,0,[]⟩:G9),false)) (cond ((b.down.length:Int)<=a.CZ) (some ((⟨0,0,0,[]⟩:G9),false)) (cond ((b.up.length:Int)<=a.CZ) (some ((⟨0,0,0,[]⟩:G9),false)) ((CU b.CO a.CZ).bind λ l=>(CU b.CY a.CZ).bind λ G3=>cond (a.kind=1) ((C9 (ZJ b a l) 0).bind (λ | .inl j=>(CU b.down a.CZ).bind λ g=>cond (6<=(g.length:Int)) (some ((⟨4,a.CZ,0,[]⟩:G9),true)) (some ((⟨8,a.CZ,0,[]⟩:G9),true)) | .inr (f)=>some f)) (cond (a.kind=2) (some ((⟨9,a.CZ,0,[]⟩:G9),true)) (cond (a.kind=3) (some ((⟨9,a.CZ,0,[]⟩:G9),true)) (cond (a.kind=4) (some ((⟨10,a.CZ,0,[]⟩:G9),true)) (cond (a.kind=5) ((C9 (ZK b a G3) 0).bind (λ | .inl i=>(CU b.up a.CZ).bind λ Mu=>cond (6<=(Mu.length:Int)) (some ((⟨5,a.CZ,0,[]⟩:G9),true)) (some ((⟨8,a.CZ,0,[]⟩:G9),true)) | .inr (e)=>some e)) (some ((⟨0,0,0,[]⟩:G9),false))))))))))
theorem W6{b n r}(a:LJ b n=some r):
   Rq 42 [.agg [sD (CT b.CQ),sD (DA b.CR),sD (Dn b.closed),sD (CT b.Dp),sD (CT b.C0),sD (Ed b.CO),sD (DF b.CS),bD b.C7,sD (Ek b.CX),sD (ED b.CY),sD (Da b.down),sD (Da b.up)],.agg n.c] [] [] (.Em [.agg r.1.c,bD r.2]):=by
 refine EA func42 Bgk ?_;unfold LJ at a;obtain ⟨_,a⟩ | ⟨_,a⟩:=cE a
 . refine Ec a R0 λ _ a=>?_;obtain ⟨_,a⟩ | ⟨_,a⟩:=cE a
   . obtain ⟨_,a⟩ | ⟨_,a⟩:=cE a
     . obtain ⟨_,a⟩ | ⟨_,a⟩:=cE a
       . refine C5 [2] [0,0,0,0,0,0,0,0,0,0,0,1,1,2,3] ?_;obtain ⟨_,a,_⟩:=jE Db a;obtain ⟨_,a,_⟩:=jE Lk a;obtain ⟨_,a⟩ | ⟨_,a⟩:=cE a
         . obtain ⟨_,a⟩ | ⟨_,a⟩:=cE a
           . obtain ⟨_,a⟩ | ⟨_,a⟩:=cE a
             . obtain ⟨_,a⟩ | ⟨_,a⟩:=cE a
               . refine cP a λ _ a=>?_;obtain ⟨o,g,a⟩:=bE a;refine H2 g [2,4,6,8] [2,4,8] (λ q=>[(11,iD q)]) (λ _=>[]) ?_;rintro s _ O3 Boj;rw[ZK.eq_1] at O3;obtain ⟨Nr,O3,i,_⟩:=jK Eo O3;obtain ⟨_,O3⟩ | ⟨_,O3⟩:=cK O3
                 . cases kR O3;(try dsimp only at a);refine A ?_;obtain ⟨LG,e,a⟩:=bE a;obtain rfl:LG=Nr:=Bf (e.symm.trans i);have _:=EK e;have _:=Eo e;refine cP a λ _ a=>?_;exact zP a
                 obtain ⟨_,O3,_⟩:=jK Oz O3;obtain ⟨_,O3⟩ | ⟨_,O3⟩:=cK O3
                 . exact AL (Boj _ _ (kI O3))
                 obtain ⟨_,O3⟩ | ⟨_,O3⟩:=cK O3
                 . exact AL (Boj _ _ (kI O3))
                 obtain ⟨_,O3⟩ | ⟨_,O3⟩:=cK O3
                 . exact AL (Boj _ _ (kI O3))
                 cases kR O3;exact zP a
               exact zP a
             exact zP a
           exact zP a
         obtain ⟨p,j,a⟩:=bE a;refine H2 j [2,4,6,7] [2,4,7] (λ q=>[(9,iD q)]) (λ _=>[]) ?_;rintro t _ Sq Bs7;rw[ZJ.eq_1] at Sq;obtain ⟨l,Sq,k,_⟩:=jK Eo Sq;obtain ⟨_,Sq⟩ | ⟨_,Sq⟩:=cK Sq
         . cases kR Sq;(try dsimp only at a);refine A ?_;obtain ⟨m,f,a⟩:=bE a;obtain rfl:m=l:=Bf (f.symm.trans k);have _:=EK f;have _:=Eo f;refine cP a λ _ a=>?_;exact zP a
         obtain ⟨_,Sq,_⟩:=jK Oz Sq;obtain ⟨_,Sq⟩ | ⟨_,Sq⟩:=cK Sq
         . exact AL (Bs7 _ _ (kI Sq))
         obtain ⟨_,Sq⟩ | ⟨_,Sq⟩:=cK Sq
         . exact AL (Bs7 _ _ (kI Sq))
         cases kR Sq;exact zP a
       exact zP a
     exact zP a
   exact zP a
 exact zP a
def LI(b:Int)(a:Int):Option (Int):=
 cond (a<=1) (some 0) (cond (¬a=0) (cond ((Int.tmod b a)<0) (some (i64.wrap ((Int.tmod b a)+a))) (some (Int.tmod b a))) none)
theorem W5{b e r}(a:LI b e=some r):
   Rq 33 [iD b,iD e] [] [] (iD r):=by
 refine EA func33 Aec ?_;unfold LI at a;obtain ⟨_,a⟩ | ⟨_,a⟩:=cE a
 . obtain ⟨f,a⟩:=gE a;have _:=Bg f;refine cP a λ _ a=>?_;exact zP a
 exact zP a
def Di(b:Aa)(a:Int)(e:Int):Option (Int×Aa×Int):=
 cond (a<(b.length:Int)) ((CU b a).bind λ g=>(LI g e).bind λ i=>some (i,b,(i64.wrap (a+1)))) ((LI (Int.tmod (i64.wrap (a*7)) 11) e).bind λ f=>some (f,b,(i64.wrap (a+1))))
theorem Dy{b e f r}(a:Di b e f=some r):
   Rq 14 [.ptr 1000000 0,iD f] [(1000000,.box [sD (CT b),iD e])] [(1000000,.box [sD (CT r.2.1),iD r.2.2])] (iD r.1):=by
 refine EA func14 Aee ?_;unfold Di at a;refine Dd [0,0,0,0,0,0,0,0,0,0] ?_;obtain ⟨_,a⟩ | ⟨_,a⟩:=cE a
 . refine Ec a W5 λ _ a=>?_;exact zO a
 refine Dd [0,0,0,0,0,0,0,0,0,0,0] ?_;obtain ⟨_,a,_⟩:=jE Dl a;refine Ec a W5 λ _ a=>?_;exact zO a
def Jk(e:Aa)(f:Int)(b:O5)(g:Bool):Option (G9×Aa×Int):=
 (Di e f (10:Int)).bind λ (x1,x2,x3)=>(CU ([2,3,4,5,6,7,8,9,10,11]:Aa) x1).bind λ a=>cond (a=11) (cond g ((Di x2 x3 4).bind λ (GA,OW,Nr)=>cond (0<GA) ((Di OW Nr (i64.wrap ((b.CX.length:Int)+1))).bind λ (WS,QW,KO)=>some ((⟨8,WS,0,[]⟩:G9),QW,KO)) ((Di OW Nr (i64.wrap ((b.CX.length:Int)+1))).bind λ (Mv,OS,LG)=>cond (a<8) ((Di OS LG 3).bind λ (NH,YC,Sd)=>some ((⟨a,Mv,NH,[]⟩:G9),YC,Sd)) (some ((⟨a,Mv,0,[]⟩:G9),OS,LG)))) ((Di x2 x3 (i64.wrap ((b.CX.length:Int)+1))).bind λ (I4,Fj,P1)=>some ((⟨8,I4,0,[]⟩:G9),Fj,P1))) ((Di x2 x3 (i64.wrap ((b.CX.length:Int)+1))).bind λ (G3,Ju,Lq)=>cond (a<8) ((Di Ju Lq 3).bind λ (Jt,Hy,RY)=>some ((⟨a,G3,Jt,[]⟩:G9),Hy,RY)) (some ((⟨a,G3,0,[]⟩:G9),Ju,Lq)))
theorem Rr{f g b i r}(a:Jk f g b i=some r):
   Rq 22 [.ptr 1000000 0,.agg [sD (CT b.CQ),sD (DA b.CR),sD (Dn b.closed),sD (CT b.Dp),sD (CT b.C0),sD (Ed b.CO),sD (DF b.CS),bD b.C7,sD (Ek b.CX),sD (ED b.CY),sD (Da b.down),sD (Da b.up)],bD i] [(1000000,.box [sD (CT f),iD g])] [(1000000,.box [sD (CT r.2.1),iD r.2.2])] (.agg r.1.c):=by
 refine EA func22 Bgx ?_;unfold Jk at a;refine Ec a Dy ?_;rintro ⟨e,_,_⟩ a;obtain ⟨m,j,a⟩:=bE a;have _:0<=e/\e<10:=by have:=EK j;simp only[Br,Bz] at this;omega
 have k:(CT [2,3,4,5,6,7,8,9,10,11]).getD (Int.toNat e) []=[(.int .i64 m)]:=D1 _ j;have l:=k;try simp only[FY,FX,FW,GZ,FV,GY,FZ,G1,HF,FH,Hq,Hr,T4,Bv] at l
 obtain ⟨_,a⟩ | ⟨_,a⟩:=cE a
 . refine Ec a Dy ?_;rintro ⟨_,_,_⟩ a;refine cO a λ _ a=>?_;refine Ec a Dy ?_;rintro ⟨_,_,_⟩ a;exact zO a
 obtain ⟨_,a⟩ | ⟨_,a⟩:=cE a
 . refine Ec a Dy ?_;rintro ⟨_,_,_⟩ a;exact zO a
 refine Ec a Dy ?_;rintro ⟨_,_,_⟩ a;obtain ⟨_,a⟩ | ⟨_,a⟩:=cE a
 . refine Ec a Dy ?_;rintro ⟨_,_,_⟩ a;refine cO a λ _ a=>?_;refine Ec a Dy ?_;rintro ⟨_,_,_⟩ a;exact zO a
 refine Ec a Dy ?_;rintro ⟨_,_,_⟩ a;exact zO a
theorem Bau(l)(i)(v0)(v1)(v2)(v3)(v4)(v5)(v6)(v7)(v8)(v9)(v11)(v12):(Ed l).set i [.int .i64 v0,.bool v1,.int .i64 v2,.int .i64 v3,.int .i64 v4,.int .u64 v5,.bool v6,.bool v7,.int .i64 v8,.int .i64 v9,.sl [],.int .i64 v11,.int .i64 v12]=Ed (l.set i ⟨v0,v1,v2,v3,v4,v5,v6,v7,v8,v9,[],v11,v12⟩):=by simp[Ed,FX,BI]
theorem Ati(l)(v0)(v1)(v2)(v3)(v4)(v5)(v6)(v7)(v8)(v9)(v11)(v12):Ed l++[[.int .i64 v0,.bool v1,.int .i64 v2,.int .i64 v3,.int .i64 v4,.int .u64 v5,.bool v6,.bool v7,.int .i64 v8,.int .i64 v9,.sl [],.int .i64 v11,.int .i64 v12]]=Ed (l++[⟨v0,v1,v2,v3,v4,v5,v6,v7,v8,v9,[],v11,v12⟩]):=by simp[Ed,FX]
theorem Atk(l)(v0)(v1)(v2)(v3)(v4)(v5)(v6)(v7)(v8)(v9)(v10)(v11)(v12):Ed l++[[.int .i64 v0,.bool v1,.int .i64 v2,.int .i64 v3,.int .i64 v4,.int .u64 v5,.bool v6,.bool v7,.int .i64 v8,.int .i64 v9,.sl [[.int .i64 v10]],.int .i64 v11,.int .i64 v12]]=Ed (l++[⟨v0,v1,v2,v3,v4,v5,v6,v7,v8,v9,[v10],v11,v12⟩]):=by simp[Ed,CT]
theorem Baw(l)(i)(v0)(v1)(v2)(v3)(v4)(v5)(v6)(v7)(v8)(v9)(v10)(v11)(v12):(Ed l).set i [.int .i64 v0,.bool v1,.int .i64 v2,.int .i64 v3,.int .i64 v4,.int .u64 v5,.bool v6,.bool v7,.int .i64 v8,.int .i64 v9,.sl [[.int .i64 v10]],.int .i64 v11,.int .i64 v12]=Ed (l.set i ⟨v0,v1,v2,v3,v4,v5,v6,v7,v8,v9,[v10],v11,v12⟩):=by simp[Ed,CT,BI]
attribute [go_sem] Bau Ati Atk Baw
def GM(a:DX)(b:Int)(k:Int):Option (Aa×Ab×Ag×Ak):=
 (CU a.CO b).bind λ e=>(HE {a with CO:=a.CO.set b.toNat {e with EI:=0}} 23 b k).bind λ i=>(CU (a.CO.set b.toNat {e with EI:=0}) b).bind λ f=>(IL f).bind λ Ju=>(NY (⟨a.blocks,a.next,a.CV,a.C8,a.cq,a.ca,a.cd,a.cp⟩:Nt) (⟨a.closed,a.Dp,a.C0⟩:Me) Ju k).bind λ (Jb,I8)=>cond I8 ((CU ((a.CO.set b.toNat {e with EI:=0}).set b.toNat {f with De:=[]}) b).bind λ g=>(K8 (⟨a.CQ,a.CR⟩:KM) b).bind λ Ue=>cond (0<=Ue) ((CU (((a.CO.set b.toNat {e with EI:=0}).set b.toNat {f with De:=[]}).set b.toNat {g with De:=Jb}) b).bind λ Va=>cond ((Va.De.length:Int)=0) ((G2 {a with CO:=((a.CO.set b.toNat {e with EI:=0}).set b.toNat {f with De:=[]}).set b.toNat {g with De:=Jb},CP:=i} b).bind λ (U9,x70,x71,x72)=>some (U9,x70,x71,x72)) ((CU Va.De 0).bind λ j=>cond (j=Ue) (some (a.CQ,a.CR,(((a.CO.set b.toNat {e with EI:=0}).set b.toNat {f with De:=[]}).set b.toNat {g with De:=Jb}),i)) ((G2 {a with CO:=((a.CO.set b.toNat {e with EI:=0}).set b.toNat {f with De:=[]}).set b.toNat {g with De:=Jb},CP:=i} b).bind λ (x63,Ud,x65,x66)=>some (x63,Ud,x65,x66)))) (some (a.CQ,a.CR,(((a.CO.set b.toNat {e with EI:=0}).set b.toNat {f with De:=[]}).set b.toNat {g with De:=Jb}),i))) ((K8 (⟨a.CQ,a.CR⟩:KM) b).bind λ RY=>cond (0<=RY) ((CU ((a.CO.set b.toNat {e with EI:=0}).set b.toNat {f with De:=[]}) b).bind λ I4=>cond ((I4.De.length:Int)=0) ((G2 {a with CO:=(a.CO.set b.toNat {e with EI:=0}).set b.toNat {f with De:=[]},CP:=i} b).bind λ (H6,WS,QW,KO)=>some (H6,WS,QW,KO)) ((CU I4.De 0).bind λ Nr=>cond (Nr=RY) (some (a.CQ,a.CR,((a.CO.set b.toNat {e with EI:=0}).set b.toNat {f with De:=[]}),i)) ((G2 {a with CO:=(a.CO.set b.toNat {e with EI:=0}).set b.toNat {f with De:=[]},CP:=i} b).bind λ (LG,KR,Nj,NH)=>some (LG,KR,Nj,NH)))) (some (a.CQ,a.CR,((a.CO.set b.toNat {e with EI:=0}).set b.toNat {f with De:=[]}),i)))
theorem Gb{b k l r}(a:GM b k l=some r):
   Rq 144 [.ptr 1000000 0,iD k,iD l] (DX.h b) (DX.h ({b with CQ:=r.1,CR:=r.2.1,CO:=r.2.2.1,CP:=r.2.2.2})) (.Em []):=by
 refine EA func144 Azr ?_;unfold GM at a;obtain ⟨_,a,_⟩:=jE Db a;refine Ec a Gl λ _ a=>?_;refine Hx [0,10,20,30,40,50,60,70,80,90,100,110,130,122,142,150,160,170,180,190] ?_;obtain ⟨_,a,_,m,_⟩:=jE Db a;have _:=sl m;refine FO a Kx λ _ a=>?_;refine FO a Abz ?_;rintro ⟨_,_⟩ a;obtain ⟨_,a⟩ | ⟨_,a⟩:=cE a
 . refine Ec a LR λ _ a=>?_;refine cO a λ _ a=>?_;obtain ⟨I4,a,_,e,_⟩:=jE Db a;have _:=sl e;obtain ⟨_,a⟩ | ⟨_,a⟩:=cE a
   . obtain ⟨_,a,i,_⟩:=iE a;have _:(CT I4.De).getD 0 []=_:=Dl i;obtain ⟨_,a⟩ | ⟨_,a⟩:=cE a
     . refine Ec a H0 ?_;rintro ⟨_,_,_,_⟩ a;exact zO a
     exact zO a
   refine Ec a H0 ?_;rintro ⟨_,_,_,_⟩ a;exact zO a
 obtain ⟨_,a,_,f,_⟩:=jE Db a;have _:=sl f;refine Ec a LR λ _ a=>?_;refine cO a λ _ a=>?_;obtain ⟨Va,a,_,g,_⟩:=jE Db a;have _:=sl g;obtain ⟨_,a⟩ | ⟨_,a⟩:=cE a
 . obtain ⟨_,a,j,_⟩:=iE a;have _:(CT Va.De).getD 0 []=_:=Dl j;obtain ⟨_,a⟩ | ⟨_,a⟩:=cE a
   . refine Ec a H0 ?_;rintro ⟨_,_,_,_⟩ a;exact zO a
   exact zO a
 refine Ec a H0 ?_;rintro ⟨_,_,_,_⟩ a;exact zO a
def Gi(a:DX)(b:Int):Option (Aa×Ab×Ag×Ak):=
 (CU a.CO b).bind λ e=>(CU (a.CO.set b.toNat {e with DY:=(-1)}) b).bind λ f=>(IL f).bind λ Ir=>(K3 (⟨a.blocks,a.next,a.CV,a.C8,a.cq,a.ca,a.cd,a.cp⟩:Nt) Ir).bind λ Ju=>cond (0<=Ju) ((G2 {a with CO:=(a.CO.set b.toNat {e with DY:=(-1)}).set b.toNat {f with Dx:=0}} b).bind λ (H6,WS,QW,KO)=>cond (QW.length=a.CO.length) ((CU QW b).bind λ g=>(IL g).bind λ i=>(K2 (⟨a.blocks,a.next,a.CV,a.C8,a.cq,a.ca,a.cd,a.cp⟩:Nt) i).bind λ NF=>some (H6,WS,(QW.set b.toNat {g with De:=NF}),KO)) none) ((CU ((a.CO.set b.toNat {e with DY:=(-1)}).set b.toNat {f with Dx:=3}) b).bind λ I8=>cond (0<=I8.Ev) ((GM {a with CO:=(a.CO.set b.toNat {e with DY:=(-1)}).set b.toNat {f with Dx:=3}} b I8.Ev).bind λ (LG,KR,Nj,NH)=>some (LG,KR,Nj,NH)) ((CU (((a.CO.set b.toNat {e with DY:=(-1)}).set b.toNat {f with Dx:=3}).set b.toNat {I8 with EI:=0}) b).bind λ I4=>(G2 {a with CO:=(((a.CO.set b.toNat {e with DY:=(-1)}).set b.toNat {f with Dx:=3}).set b.toNat {I8 with EI:=0}).set b.toNat {I4 with De:=[]}} b).bind λ (OW,Nr,OV,RV)=>some (OW,Nr,OV,RV)))
theorem HZ{b i r}(a:Gi b i=some r):
   Rq 179 [.ptr 1000000 0,iD i] (DX.h b) (DX.h ({b with CQ:=r.1,CR:=r.2.1,CO:=r.2.2.1,CP:=r.2.2.2})) (.Em []):=by
 refine EA func179 Ayx ?_;unfold Gi at a;obtain ⟨_,a,_⟩:=jE Db a;refine Dd [0,0,0,0,0,0,0,2,2,0] ?_;obtain ⟨_,a,_,k,_⟩:=jE Db a;have _:=sl k;refine FO a Kx λ _ a=>?_;refine FO a NU λ _ a=>?_;obtain ⟨_,a⟩ | ⟨_,a⟩:=cE a
 . obtain ⟨_,a,_,f,_⟩:=jE Db a;have _:=sl f;obtain ⟨_,a⟩ | ⟨_,a⟩:=cE a
   . obtain ⟨_,a,_,g,_⟩:=jE Db a;have _:=sl g;refine Ec a H0 ?_;rintro ⟨_,_,_,_⟩ a;exact zO a
   refine Ec a Gb ?_;rintro ⟨_,_,_,_⟩ a;exact zO a
 refine Ec a H0 ?_;rintro ⟨_,_,QW,_⟩ a;refine C5 [1000000,1000001] [0,0,0,0,0,0,0,0,2,2,0,0,3] ?_;obtain ⟨e,a⟩:=gE a;have j:(b.CO.length=QW.length)=True:=eq_true (Bg e).symm;obtain ⟨_,a,_⟩:=jE Db a;refine FO a Kx λ _ a=>?_;refine FO a NT λ _ a=>?_;exact zO a
def Zu(a:DX)(b:Int)(f:Int)(i:Int):Option (Aa×Ab×Ag×Ao×Ak):=
 (HE a i b 0).bind λ g=>(CU a.CS b).bind λ e=>cond (e.state=1) ((CU (a.CS.set b.toNat {e with state:=f}) b).bind λ RX=>(Gi {a with CS:=a.CS.set b.toNat {e with state:=f},CP:=g} RX.CZ).bind λ (GA,OW,Nr,OV)=>some (GA,OW,Nr,(a.CS.set b.toNat {e with state:=f}),OV)) (cond (e.state=2) ((CU (a.CS.set b.toNat {e with state:=f}) b).bind λ j=>(Gi {a with CS:=a.CS.set b.toNat {e with state:=f},CP:=g} j.CZ).bind λ (Jb,I8,Jt,Hy)=>some (Jb,I8,Jt,(a.CS.set b.toNat {e with state:=f}),Hy)) (some (a.CQ,a.CR,a.CO,(a.CS.set b.toNat {e with state:=f}),g)))
theorem Af7{b g i j r}(a:Zu b g i j=some r):
   Rq 174 [.ptr 1000000 0,iD g,iD i,iD j] (DX.h b) (DX.h ({b with CQ:=r.1,CR:=r.2.1,CO:=r.2.2.1,CS:=r.2.2.2.1,CP:=r.2.2.2.2})) (.Em []):=by
 refine EA func174 Az2 ?_;unfold Zu at a;refine Ec a Gl λ _ a=>?_;obtain ⟨_,a,_⟩:=jE EG a;obtain ⟨_,a⟩ | ⟨_,a⟩:=cE a
 . refine cO a λ _ a=>?_;obtain ⟨_,a,_,e,_⟩:=jE EG a;have _:=sl e;refine Ec a HZ ?_;rintro ⟨_,_,_,_⟩ a;exact zO a
 obtain ⟨_,a,_,f,_⟩:=jE EG a;have _:=sl f;refine Ec a HZ ?_;rintro ⟨_,_,_,_⟩ a;exact zO a
def QS(a:DX)(b:Int):Option (Aa×Ab×Ag):=
 (CU a.CO b).bind λ e=>cond (e.Ff=(-1)) (some (a.CQ,a.CR,a.CO)) ((Iv (⟨a.CQ,a.CR⟩:KM) e.cell).bind λ (x6,x7)=>(CU (a.CO.set b.toNat {e with cell:=e.Ff}) b).bind λ f=>(CU ((a.CO.set b.toNat {e with cell:=e.Ff}).set b.toNat {f with Ff:=(-1)}) b).bind λ Jb=>cond (Jb.Dx=3) (cond (0<=Jb.Ev) ((CU a.CV Jb.Ev).bind λ I4=>cond (Jb.cell=I4.base) ((CU (((a.CO.set b.toNat {e with cell:=e.Ff}).set b.toNat {f with Ff:=(-1)}).set b.toNat {Jb with Dx:=0}) b).bind λ OW=>(K2 (⟨a.blocks,a.next,a.CV,a.C8,a.cq,a.ca,a.cd,a.cp⟩:Nt) OW.cell).bind λ OS=>some (x6.CQ,x6.CR,((((a.CO.set b.toNat {e with cell:=e.Ff}).set b.toNat {f with Ff:=(-1)}).set b.toNat {Jb with Dx:=0}).set b.toNat {OW with De:=OS}))) (some (x6.CQ,x6.CR,((a.CO.set b.toNat {e with cell:=e.Ff}).set b.toNat {f with Ff:=(-1)})))) (some (x6.CQ,x6.CR,((a.CO.set b.toNat {e with cell:=e.Ff}).set b.toNat {f with Ff:=(-1)})))) (some (x6.CQ,x6.CR,((a.CO.set b.toNat {e with cell:=e.Ff}).set b.toNat {f with Ff:=(-1)}))))
theorem Aqi{b i r}(a:QS b i=some r):
   Rq 128 [.ptr 1000000 0,iD i] (DX.h b) (DX.h ({b with CQ:=r.1,CR:=r.2.1,CO:=r.2.2})) (.Em []):=by
 refine EA func128 Ba5 ?_;unfold QS at a;obtain ⟨_,a,_⟩:=jE Db a;obtain ⟨_,a⟩ | ⟨_,a⟩:=cE a
 . refine C5 [1000000,1000001] [0,0,0,0,0,0,0,0,0,0,2,0,0,0,0,0,0,4] ?_;refine FO a N2 ?_;rintro ⟨_,_⟩ a;obtain ⟨_,a,_,e,_⟩:=jE Db a;have _:=sl e;refine Dd [0,0,0,0,0,0,0,0,0,0,0,0,0,0,0,0,0,0,0,0,0,0,0,0,0,0,0,0,0,0,0] ?_;obtain ⟨_,a,_,f,_⟩:=jE Db a;have _:=sl f;refine cO a λ _ a=>?_;refine cO a λ _ a=>?_;obtain ⟨_,a,_⟩:=jE Ex a;refine cO a λ _ a=>?_;refine C5 [1000000,1000001] [0,0,0,0,0,0,0,0,0,2,0,0,3] ?_;obtain ⟨_,a,_,g,_⟩:=jE Db a;have _:=sl g;refine FO a NT λ _ a=>?_;exact zO a
 exact zO a
def QP(a:DX)(e:Int):Option (Aa×Ab×Ag×Ao×Ak):=
 (CU a.CO e).bind λ f=>cond f.DH ((CU (a.CO.set e.toNat {f with DH:=false}) e).bind λ b=>cond (b.DY<0) (some (a.CQ,a.CR,(a.CO.set e.toNat {f with DH:=false}),a.CS,a.CP)) (cond (b.Dx=1) ((CU a.CS b.DY).bind λ Nr=>(HE {a with CO:=a.CO.set e.toNat {f with DH:=false},CS:=a.CS.set b.DY.toNat {Nr with state:=2}} 3 b.DY e).bind λ OS=>(CU (a.CS.set b.DY.toNat {Nr with state:=2}) b.DY).bind λ KR=>(GM {a with CO:=(a.CO.set e.toNat {f with DH:=false}).set e.toNat {b with Dx:=2},CS:=a.CS.set b.DY.toNat {Nr with state:=2},CP:=OS} e KR.drop).bind λ (H6,WS,QW,KO)=>some (H6,WS,QW,(a.CS.set b.DY.toNat {Nr with state:=2}),KO)) (cond (b.Dx=2) ((CU a.CS b.DY).bind λ Jb=>(HE {a with CO:=a.CO.set e.toNat {f with DH:=false},CS:=a.CS.set b.DY.toNat {Jb with state:=3}} 4 b.DY e).bind λ RY=>(Gi {a with CO:=a.CO.set e.toNat {f with DH:=false},CS:=a.CS.set b.DY.toNat {Jb with state:=3},CP:=RY} e).bind λ (RX,I4,Fj,P1)=>some (RX,I4,Fj,(a.CS.set b.DY.toNat {Jb with state:=3}),P1)) (some (a.CQ,a.CR,(a.CO.set e.toNat {f with DH:=false}),a.CS,a.CP))))) (some (a.CQ,a.CR,a.CO,a.CS,a.CP))
theorem Aq5{b f r}(a:QP b f=some r):
   Rq 129 [.ptr 1000000 0,iD f] (DX.h b) (DX.h ({b with CQ:=r.1,CR:=r.2.1,CO:=r.2.2.1,CS:=r.2.2.2.1,CP:=r.2.2.2.2})) (.Em []):=by
 refine EA func129 Ba4 ?_;unfold QP at a;obtain ⟨_,a,_⟩:=jE Db a;refine cO a λ _ a=>?_;obtain ⟨_,a,_,g,_⟩:=jE Db a;have _:=sl g;obtain ⟨_,a⟩ | ⟨_,a⟩:=cE a
 . obtain ⟨_,a⟩ | ⟨_,a⟩:=cE a
   . refine cO a λ _ a=>?_;obtain ⟨_,a,_⟩:=jE EG a;refine Ec a Gl λ _ a=>?_;refine Ec a HZ ?_;rintro ⟨_,_,_,_⟩ a;exact zO a
   obtain ⟨_,a,_⟩:=jE EG a;refine Ec a Gl λ _ a=>?_;obtain ⟨_,a,_,e,_⟩:=jE EG a;have _:=sl e;refine Ec a Gb ?_;rintro ⟨_,_,_,_⟩ a;exact zO a
 exact zO a
def Yh(j:DX):Ag×Ak×Aa×Aa×Ab×Int->Option ((Ag×Ak×Aa×Aa×Ab×Int)⊕((Ag×Ak×Aa×Aa×Ab×Int)))
 | (f,i,g,b,e,a)=>cond (a<(f.length:Int)) ((CU f a).bind λ OT=>cond (OT.state=1) (cond OT.Fc (cond (OT.Dx=0) (cond (OT.Ff=(-1)) ((G2 {j with CQ:=b,CR:=e,CO:=f,CP:=i,DO:=g} a).bind λ (Nr,OV,RV,Mv)=>cond (RV.length=f.length) ((CU RV a).bind λ KR=>(Iv (⟨Nr,OV⟩:KM) KR.cell).bind λ (Sd,H6)=>(CU (RV.set a.toNat {KR with cell:=(-1)}) a).bind λ QW=>(RE {j with CQ:=Sd.CQ,CR:=Sd.CR,CO:=(RV.set a.toNat {KR with cell:=(-1)}).set a.toNat {QW with De:=[]},CP:=Mv,DO:=g} a).bind λ (Mu,NG)=>cond (g.length+1<10000000) (some (.inl (Mu,NG,(g++[a]),Sd.CQ,Sd.CR,(i64.wrap (a+1))))) none) none) (some (.inl (f,i,g,b,e,(i64.wrap (a+1)))))) (some (.inl (f,i,g,b,e,(i64.wrap (a+1)))))) (some (.inl (f,i,g,b,e,(i64.wrap (a+1)))))) (some (.inl (f,i,g,b,e,(i64.wrap (a+1)))))) (some (.inr (f,i,g,b,e,a)))
def MX(a:DX):Option (Aa×Ab×Ag×Ak×Aa):=
 (C9 (Yh a) (a.CO,a.CP,a.DO,a.CQ,a.CR,0)).bind (λ (v50,v51,v52,v53,v54,v55)=>some (v53,v54,v50,v51,v52))
theorem Agn{a r}(b:MX a=some r):
   Rq 92 [.ptr 1000000 0] (DX.h a) (DX.h ({a with CQ:=r.1,CR:=r.2.1,CO:=r.2.2.1,CP:=r.2.2.2.1,DO:=r.2.2.2.2})) (.Em []):=by
 refine EA func92 Bff ?_;unfold MX at b;obtain ⟨j,g,b⟩:=bE b;refine H2 g [0] [] (λ q=>[(2,iD q.2.2.2.2.2)]) (λ q=>DX.h ({a with CQ:=q.2.2.2.1,CR:=q.2.2.2.2.1,CO:=q.1,CP:=q.2.1,DO:=q.2.2.1})) ?_;rintro ⟨n,o,p,k,l,m⟩ _ EE Adl;rw[Yh.eq_1] at EE;obtain ⟨_,EE⟩ | ⟨_,EE⟩:=cK EE
 . cases kR EE;exact zO b
 obtain ⟨_,EE,_⟩:=jK Db EE;obtain ⟨_,EE⟩ | ⟨_,EE⟩:=cK EE
 . exact AL (Adl _ _ (kI EE))
 obtain ⟨_,EE⟩ | ⟨_,EE⟩:=cK EE
 . exact AL (Adl _ _ (kI EE))
 obtain ⟨_,EE⟩ | ⟨_,EE⟩:=cK EE
 . exact AL (Adl _ _ (kI EE))
 obtain ⟨_,EE⟩ | ⟨_,EE⟩:=cK EE
 . exact AL (Adl _ _ (kI EE))
 refine Fy EE H0 ?_;rintro ⟨_,_,RV,_⟩ EE;refine C5 [1000000,1000001] [0,0,0,0,0,0,0,0,0,0,2,0,0,0,0,0,0,4] ?_;obtain ⟨e,EE⟩:=gK EE;have i:(n.length=RV.length)=True:=eq_true (Bg e).symm;obtain ⟨_,EE,_⟩:=jK Db EE;refine Sc EE N2 ?_;rintro ⟨_,_⟩ EE;obtain ⟨_,EE,_,f,_⟩:=jK Db EE;have _:=sl f;refine Fy EE Zr ?_;rintro ⟨_,_⟩ EE;obtain ⟨O4,EE⟩:=gK EE;refine He O4 ?_;exact AL (Adl _ _ (kI EE))
def Sa(i:DX):Ag×Ak×Aa×Ab×Int->Option ((Ag×Ak×Aa×Ab×Int)⊕((Ag×Ak×Aa×Ab×Int)))
 | (b,e,f,g,a)=>cond (a<(b.length:Int)) ((CU b a).bind λ Hy=>(NO {i with CQ:=f,CR:=g,CO:=b,CP:=e} Hy).bind λ (I4,Fj)=>cond Fj (cond (I4=Hy.Ev) (some (.inl (b,e,f,g,(i64.wrap (a+1))))) (cond (0<=Hy.Ev) ((CU (b.set a.toNat {Hy with Dx:=3}) a).bind λ Nr=>(GM {i with CQ:=f,CR:=g,CO:=b.set a.toNat {Hy with Dx:=3},CP:=e} a Nr.Ev).bind λ (LG,KR,Nj,NH)=>some (.inl (Nj,NH,LG,KR,(i64.wrap (a+1))))) (some (.inl (b,e,f,g,(i64.wrap (a+1))))))) (some (.inl (b,e,f,g,(i64.wrap (a+1)))))) (some (.inr (b,e,f,g,a)))
def Jq(a:DX):Option (Aa×Ab×Ag×Ak):=
 (C9 (Sa a) (a.CO,a.CP,a.CQ,a.CR,0)).bind (λ (v38,v39,v40,v41,v42)=>some (v40,v41,v38,v39))
theorem Zo{a r}(b:Jq a=some r):
   Rq 93 [.ptr 1000000 0] (DX.h a) (DX.h ({a with CQ:=r.1,CR:=r.2.1,CO:=r.2.2.1,CP:=r.2.2.2})) (.Em []):=by
 refine EA func93 Bfe ?_;unfold Jq at b;obtain ⟨g,f,b⟩:=bE b;refine H2 f [0] [] (λ q=>[(2,iD q.2.2.2.2)]) (λ q=>DX.h ({a with CQ:=q.2.2.1,CR:=q.2.2.2.1,CO:=q.1,CP:=q.2.1})) ?_;rintro ⟨j,k,l,m,i⟩ _ Dr L3;rw[Sa.eq_1] at Dr;obtain ⟨_,Dr⟩ | ⟨_,Dr⟩:=cK Dr
 . cases kR Dr;exact zO b
 obtain ⟨_,Dr,_⟩:=jK Db Dr;refine Fy Dr Aqg ?_;rintro ⟨_,_⟩ Dr;obtain ⟨_,Dr⟩ | ⟨_,Dr⟩:=cK Dr
 . exact AL (L3 _ _ (kI Dr))
 obtain ⟨_,Dr⟩ | ⟨_,Dr⟩:=cK Dr
 . obtain ⟨_,Dr⟩ | ⟨_,Dr⟩:=cK Dr
   . exact AL (L3 _ _ (kI Dr))
   obtain ⟨_,Dr,_,e,_⟩:=jK Db Dr;have _:=sl e;refine Fy Dr Gb ?_;rintro ⟨_,_,_,_⟩ Dr;exact AL (L3 _ _ (kI Dr))
 exact AL (L3 _ _ (kI Dr))
def Aq1(o:DX)(l:Ao)(GA:Int)(KR:Aa)(Nj:Ab)(NH:Ag)(KO:KP)(Mu:KP)(NF:KP)(m:KP)(j:Aa):Ak×Ad×Aa×Aa×Int->Option ((Ak×Ad×Aa×Aa×Int)⊕((Ak×Ad×Aa×Aa×Int)))
 | (e,f,g,i,b)=>cond (b<(j.length:Int)) ((CU j b).bind λ k=>(Kh (⟨f,g,i⟩:Me) k GA).bind λ a=>(HE {o with CQ:=KR,CR:=Nj,closed:=a.closed,Dp:=a.Dp,C0:=a.C0,CO:=(((NH.set GA.toNat {KO with state:=2}).set GA.toNat {Mu with Ev:=(-2)}).set GA.toNat {NF with DH:=false}).set GA.toNat {m with De:=[]},CS:=l,CP:=e} 7 k GA).bind λ n=>some (.inl (n,a.closed,a.Dp,a.C0,(i64.wrap (b+1))))) (some (.inr (e,f,g,i,b)))
def Aq0(g:DX)(i:Aa):Ag×Ao×Ak×Ad×Aa×Aa×Aa×Ab×Int->Option ((Ag×Ao×Ak×Ad×Aa×Aa×Aa×Ab×Int)⊕((Ag×Ao×Ak×Ad×Aa×Aa×Aa×Ab×Int)))
 | (e,a,f,I9,F4,Hu,H3,IW,My)=>cond (My<(i.length:Int)) ((CU i My).bind λ GA=>(CU e GA).bind λ RV=>(G2 {g with CQ:=H3,CR:=IW,closed:=I9,Dp:=F4,C0:=Hu,CO:=e,CS:=a,CP:=f} GA).bind λ (KR,Nj,NH,YC)=>(HE {g with CQ:=KR,CR:=Nj,closed:=I9,Dp:=F4,C0:=Hu,CO:=NH,CS:=a,CP:=YC} 6 GA 0).bind λ H6=>cond (NH.length=e.length) ((CU NH GA).bind λ KO=>(CU (NH.set GA.toNat {KO with state:=2}) GA).bind λ Mu=>(CU ((NH.set GA.toNat {KO with state:=2}).set GA.toNat {Mu with Ev:=(-2)}) GA).bind λ NF=>(CU (((NH.set GA.toNat {KO with state:=2}).set GA.toNat {Mu with Ev:=(-2)}).set GA.toNat {NF with DH:=false}) GA).bind λ b=>(LP (⟨KR,Nj⟩:KM) GA).bind λ (x60,x61)=>(C9 (Aq1 g a GA KR Nj NH KO Mu NF b x60) (H6,I9,F4,Hu,0)).bind (λ (Afv,VT,Bnw,Bnv,v105)=>(CU ((((NH.set GA.toNat {KO with state:=2}).set GA.toNat {Mu with Ev:=(-2)}).set GA.toNat {NF with DH:=false}).set GA.toNat {b with De:=[]}) GA).bind λ NP=>cond (0<=NP.DY) ((CU a NP.DY).bind λ Amg=>(HE {g with CQ:=KR,CR:=Nj,closed:=VT,Dp:=Bnw,C0:=Bnv,CO:=(((NH.set GA.toNat {KO with state:=2}).set GA.toNat {Mu with Ev:=(-2)}).set GA.toNat {NF with DH:=false}).set GA.toNat {b with De:=[]},CS:=a.set NP.DY.toNat {Amg with state:=5},CP:=Afv} 5 NP.DY 0).bind λ Amf=>some (.inl ((((((NH.set GA.toNat {KO with state:=2}).set GA.toNat {Mu with Ev:=(-2)}).set GA.toNat {NF with DH:=false}).set GA.toNat {b with De:=[]}).set GA.toNat {NP with DY:=(-1)}),(a.set NP.DY.toNat {Amg with state:=5}),Amf,VT,Bnw,Bnv,KR,Nj,(i64.wrap (My+1))))) (some (.inl (((((NH.set GA.toNat {KO with state:=2}).set GA.toNat {Mu with Ev:=(-2)}).set GA.toNat {NF with DH:=false}).set GA.toNat {b with De:=[]}),a,Afv,VT,Bnw,Bnv,KR,Nj,(i64.wrap (My+1))))))) none) (some (.inr (e,a,f,I9,F4,Hu,H3,IW,My)))
def Pr(a:DX)(b:Aa):Option (Aa×Ab×Ad×Aa×Aa×Ag×Ao×Ak):=
 (C9 (Aq0 a b) (a.CO,a.CS,a.CP,a.closed,a.Dp,a.C0,a.CQ,a.CR,0)).bind (λ (Bnt,Bns,Bnr,Br9,Br8,v124,Bnq,Br7,v127)=>some (Bnq,Br7,Br9,Br8,v124,Bnt,Bns,Bnr))
theorem Zn{a p r}(b:Pr a p=some r):
   Rq 133 [.ptr 1000000 0,sD (CT p)] (DX.h a) (DX.h ({a with CQ:=r.1,CR:=r.2.1,closed:=r.2.2.1,Dp:=r.2.2.2.1,C0:=r.2.2.2.2.1,CO:=r.2.2.2.2.2.1,CS:=r.2.2.2.2.2.2.1,CP:=r.2.2.2.2.2.2.2})) (.Em []):=by
 refine EA func133 Ba0 ?_;unfold Pr at b;obtain ⟨t,k,b⟩:=bE b;refine H2 k [0,1] [] (λ q=>[(4,iD q.2.2.2.2.2.2.2.2)]) (λ q=>DX.h ({a with CQ:=q.2.2.2.2.2.2.1,CR:=q.2.2.2.2.2.2.2.1,closed:=q.2.2.2.1,Dp:=q.2.2.2.2.1,C0:=q.2.2.2.2.2.1,CO:=q.1,CS:=q.2.1,CP:=q.2.2.1})) ?_;rintro ⟨m,n,v,I9,F4,Hu,H3,IW,My⟩ _ E4 At2;rw[Aq0.eq_1] at E4;obtain ⟨_,E4⟩ | ⟨_,E4⟩:=cK E4
 . cases kR E4;exact zO b
 obtain ⟨GA,E4,_⟩:=jK Dl E4;obtain ⟨_,E4,_⟩:=jK Db E4;refine Fy E4 H0 ?_;rintro ⟨KR,Nj,NH,_⟩ E4;refine Fy E4 Gl λ _ E4=>?_;obtain ⟨e,E4⟩:=gK E4;have s:(m.length=NH.length)=True:=eq_true (Bg e).symm;obtain ⟨KO,E4,_⟩:=jK Db E4;obtain ⟨Mu,E4,_,f,_⟩:=jK Db E4;have _:=sl f;obtain ⟨NF,E4,_,g,_⟩:=jK Db E4;have _:=sl g;obtain ⟨o,E4,_,i,_⟩:=jK Db E4;have _:=sl i;refine Fy E4 Xi ?_;rintro ⟨_,_⟩ E4;obtain ⟨u,l,E4⟩:=bK E4;refine H2 l [0,1,4,5,6,7] [] (λ q=>[(9,iD q.2.2.2.2)]) (λ q=>DX.h ({a with CQ:=KR,CR:=Nj,closed:=q.2.1,Dp:=q.2.2.1,C0:=q.2.2.2.1,CO:=((((NH.set (Int.toNat GA) ({KO with state:=2}:KP)).set (Int.toNat GA) ({Mu with Ev:=(-2)}:KP)).set (Int.toNat GA) ({NF with DH:=false}:KP)).set (Int.toNat GA) ({o with De:=[]}:KP)),CS:=n,CP:=q.1})) ?_;rintro ⟨w,x,y,z,B⟩ _ Ab0 Bz0;rw[Aq1.eq_1] at Ab0;obtain ⟨_,Ab0⟩ | ⟨_,Ab0⟩:=cK Ab0
 . cases kR Ab0;obtain ⟨_,E4,_,j,_⟩:=jK Db E4;have _:=sl j;obtain ⟨_,E4⟩ | ⟨_,E4⟩:=cK E4
   . exact AL (At2 _ _ (kI E4))
   obtain ⟨_,E4,_⟩:=jK EG E4;refine Fy E4 Gl λ _ E4=>?_;exact AL (At2 _ _ (kI E4))
 refine C5 [1000000] [0,0,0,0,0,0,0,0,0,0,0,2,0,0,0,3] ?_;obtain ⟨_,Ab0,_⟩:=jK Dl Ab0;refine Sc Ab0 Q5 λ _ Ab0=>?_;refine Fy Ab0 Gl λ _ Ab0=>?_;exact AL (Bz0 _ _ (kI Ab0))
def Yn(j:DX)(b:Int):Ad×Int->Option ((Ad×Int)⊕((Ad×Int)))
 | (e,a)=>cond (a<(j.CS.length:Int)) ((CU e b).bind λ f=>cond f (some (.inl ((e.set b.toNat true),(i64.wrap (a+1))))) ((CU j.CS a).bind λ g=>(NL g b).bind λ i=>some (.inl ((e.set b.toNat i),(i64.wrap (a+1)))))) (some (.inr (e,a)))
def Ym(b:DX):Ad×Int->Option ((Ad×Int)⊕((Ad×Int)))
 | (J9,a)=>cond (a<(b.CV.length:Int)) ((C9 (Yn b a) (J9,0)).bind (λ (v72,v73)=>some (.inl (v72,(i64.wrap (a+1)))))) (some (.inr (J9,a)))
def Ll(a:DX)(b:KP):Ad×Int->Option ((Ad×Int)⊕((Ad×Int)))
 | (Afv,VT)=>cond (VT<2) (cond (b.state=1) ((CU ([b.cell,b.Ff]:Aa) VT).bind λ Sy=>cond (Sy<0) (some (.inl (Afv,(i64.wrap (VT+1))))) ((Fo (⟨a.blocks,a.next,a.CV,a.C8,a.cq,a.ca,a.cd,a.cp⟩:Nt) Sy).bind λ (Amf,Bci)=>cond (0<=Amf) ((CU Afv Amf).bind λ Bqy=>some (.inl ((Afv.set Amf.toNat true),(i64.wrap (VT+1))))) (some (.inl (Afv,(i64.wrap (VT+1))))))) (some (.inr (Afv,VT)))) (some (.inr (Afv,VT)))
def Yl(e:DX):Ad×Ab×Int->Option ((Ad×Ab×Int)⊕((Ad×Ab×Int)))
 | (My,M7,b)=>cond (b<(e.CO.length:Int)) ((CU e.CO b).bind λ a=>(Fa a).bind λ f=>cond f (cond (M7.length+1<10000000) (cond (0<=a.Ev) ((CU My a.Ev).bind λ Bj2=>(C9 (Ll e a) ((My.set a.Ev.toNat true),0)).bind (λ (Bxs,v156)=>some (.inl (Bxs,(M7++[a.De]),(i64.wrap (b+1)))))) ((C9 (Ll e a) (My,0)).bind (λ (v124,Bnq)=>some (.inl (v124,(M7++[a.De]),(i64.wrap (b+1))))))) none) (some (.inl (My,M7,(i64.wrap (b+1)))))) (some (.inr (My,M7,b)))
def Yk(a:DX):Ak×Ad×Aa×Aa->Option ((Ak×Ad×Aa×Aa)⊕((Ad×Aa×Aa×Ak)))
 | (g,e,f,b)=>cond (a.CV.length<10000000) ((C9 (Yl a) ((List.replicate a.CV.length false),[],0)).bind (λ (v157,Bxr,v159)=>(C9 (Ym a) (v157,0)).bind (λ (Bxj,v208)=>(N1 (⟨a.blocks,a.next,a.CV,a.C8,a.cq,a.ca,a.cd,a.cp⟩:Nt) (⟨e,f,b⟩:Me) (⟨a.CQ,a.CR⟩:KM) Bxr Bxj).bind λ Bmr=>cond Bmr ((CU b 0).bind λ Ama=>(MY {a with closed:=e,Dp:=f,C0:=b,CP:=g} Ama).bind λ Bj1=>cond Bj1 ((Kh (⟨e,f,b⟩:Me) Ama (-1)).bind λ Aw4=>(HE {a with closed:=Aw4.closed,Dp:=Aw4.Dp,C0:=Aw4.C0,CP:=g} 7 Ama (-1)).bind λ Bw4=>some (.inl (Bw4,Aw4.closed,Aw4.Dp,Aw4.C0))) (some (.inr ((e,f,b,g):Ad×Aa×Aa×Ak)))) (some (.inr ((e,f,b,g):Ad×Aa×Aa×Ak)))))) none
def MZ(a:DX):Option (Ad×Aa×Aa×Ak):=
 (C9 (Yk a) (a.CP,a.closed,a.Dp,a.C0)).bind (λ Byr=>some Byr)
theorem Agr{a r}(k:MZ a=some r):
   Rq 91 [.ptr 1000000 0] (DX.h a) (DX.h ({a with closed:=r.1,Dp:=r.2.1,C0:=r.2.2.1,CP:=r.2.2.2})) (.Em []):=by
 refine EA func91 Bfg ?_;unfold MZ at k;obtain ⟨E,s,k⟩:=bE k;refine H2 s [0] [] (λ _=>[]) (λ q=>DX.h ({a with closed:=q.2.1,Dp:=q.2.2.1,C0:=q.2.2.2,CP:=q.1})) ?_;rintro ⟨l,m,n,e⟩ _ EZ MP;rw[Yk.eq_1] at EZ;obtain ⟨o,EZ⟩:=gK EZ;refine He o ?_;obtain ⟨H,u,EZ⟩:=bK EZ;refine A ?_;refine EX u (λ q=>⟨[(0,.ptr 1000000 0),(2,rD 45 q.2.1),(3,rD 19 q.1),(4,iD q.2.2)],(DX.h ({a with closed:=m,Dp:=n,C0:=e,CP:=l})++[(19,.arr 4 1 (Dn q.1)),(45,.arr 23 1 (DA q.2.1))]),181⟩) ((Wk.nil (t:=2) (q:=45) (sz:=1) 23 rfl rfl AV).trans WL) ?_;rintro ⟨My,M7,N⟩ _ EJ Aof;rw[Yl.eq_1] at EJ;obtain ⟨_,EJ⟩ | ⟨_,EJ⟩:=cK EJ
 . cases kR EJ;obtain ⟨I,v,EZ⟩:=bK EZ;refine H2 v [0,2] [45] (λ q=>[(3,rD 19 q.1),(10,iD q.2)]) (λ q=>DX.h ({a with closed:=m,Dp:=n,C0:=e,CP:=l})++[(19,.arr 4 1 (Dn q.1))]) ?_;rintro ⟨J9,Q⟩ _ E6 Agb;rw[Ym.eq_1] at E6;obtain ⟨_,E6⟩ | ⟨_,E6⟩:=cK E6
   . cases kR E6;(try dsimp only at EZ);refine Dd [0,0,0,0,0,0,0,0,0,0,0,0,0,0,0,0,2,0,0,0,0,0,0,0,0,0,0,0,2,0,0] ?_;obtain ⟨_,w,EZ⟩:=bK EZ;refine A ?_;refine GhB (Ak5 w) ?_;obtain ⟨_,EZ⟩ | ⟨_,EZ⟩:=cK EZ
     . cases kR EZ;exact zO k
     obtain ⟨_,EZ,x,_⟩:=iK EZ;have _:(CT e).getD 0 []=_:=Dl x;refine Sc EZ Agp λ _ EZ=>?_;obtain ⟨_,EZ⟩ | ⟨_,EZ⟩:=cK EZ
     . cases kR EZ;exact zO k
     refine Fy EZ Q5 λ _ EZ=>?_;refine Fy EZ Gl λ _ EZ=>?_;exact AL (MP _ _ (kI EZ))
   obtain ⟨K,y,E6⟩:=bK E6;refine H2 y [0,2,10] [45] (λ q=>[(3,rD 19 q.1),(11,iD q.2)]) (λ q=>DX.h ({a with closed:=m,Dp:=n,C0:=e,CP:=l})++[(19,.arr 4 1 (Dn q.1))]) ?_;rintro ⟨R,S⟩ _ Jl Bdx;rw[Yn.eq_1] at Jl;obtain ⟨_,Jl⟩ | ⟨_,Jl⟩:=cK Jl
   . cases kR Jl;exact AL (Agb _ _ (kI E6))
   obtain ⟨_,Jl,_⟩:=jK DZ Jl;obtain ⟨_,Jl⟩ | ⟨_,Jl⟩:=cK Jl
   . obtain ⟨_,Jl,_⟩:=jK EG Jl;refine Fy Jl ZP λ _ Jl=>?_;exact AL (Bdx _ _ (kI Jl))
   exact AL (Bdx _ _ (kI Jl))
 obtain ⟨b,EJ,_⟩:=jK Db EJ;refine Fy EJ GK λ _ EJ=>?_;obtain ⟨_,EJ⟩ | ⟨_,EJ⟩:=cK EJ
 . exact AL (Aof _ _ (kI EJ))
 obtain ⟨p,EJ⟩:=gK EJ;refine He p ?_;obtain ⟨_,EJ⟩ | ⟨_,EJ⟩:=cK EJ
 . obtain ⟨z,Cap,EJ⟩:=bK EJ;refine H2 Cap [0,2,4,5,6] [5,45,57] (λ q=>[(3,rD 19 q.1),(7,iD q.2)]) (λ q=>DX.h ({a with closed:=m,Dp:=n,C0:=e,CP:=l})++[(19,.arr 4 1 (Dn q.1))]) ?_;rintro ⟨Afv,VT⟩ _ I2 Be1;rw[Ll.eq_1] at I2;obtain ⟨_,I2⟩ | ⟨_,I2⟩:=cK I2
   . cases kR I2;exact AL (Aof _ _ (kI EJ))
   obtain ⟨_,I2⟩ | ⟨_,I2⟩:=cK I2
   . cases kR I2;exact AL (Aof _ _ (kI EJ))
   obtain ⟨Sy,Btg,I2⟩:=bK I2;have _:0<=VT/\VT<2:=by have:=EK Btg;simp only[Br,Bz] at this;omega
   have f:(CT [b.cell,b.Ff]).getD (Int.toNat VT) []=[(.int .i64 Sy)]:=D1 _ Btg;have g:=f;(try simp only[FY,FX,FW,GZ,FV,GY,FZ,G1,HF,FH,Hq,Hr,T4,Bv] at g);obtain ⟨_,I2⟩ | ⟨_,I2⟩:=cK I2
   . refine Dd [0,0,0,0,0,0,0,0,2,0,0,0,0,0] ?_;refine Sc I2 F7 ?_;rintro ⟨_,_⟩ I2;obtain ⟨_,I2⟩ | ⟨_,I2⟩:=cK I2
     . exact AL (Be1 _ _ (kI I2))
     obtain ⟨_,I2,_⟩:=jK DZ I2;exact AL (Be1 _ _ (kI I2))
   exact AL (Be1 _ _ (kI I2))
 obtain ⟨_,EJ,_⟩:=jK DZ EJ;obtain ⟨B,Cam,EJ⟩:=bK EJ;refine H2 Cam [0,2,4,5,6] [5,45,57] (λ q=>[(3,rD 19 q.1),(7,iD q.2)]) (λ q=>DX.h ({a with closed:=m,Dp:=n,C0:=e,CP:=l})++[(19,.arr 4 1 (Dn q.1))]) ?_;rintro ⟨Bxt,Bj8⟩ _ I1 Be0;rw[Ll.eq_1] at I1;obtain ⟨_,I1⟩ | ⟨_,I1⟩:=cK I1
 . cases kR I1;exact AL (Aof _ _ (kI EJ))
 obtain ⟨_,I1⟩ | ⟨_,I1⟩:=cK I1
 . cases kR I1;exact AL (Aof _ _ (kI EJ))
 obtain ⟨VP,Bte,I1⟩:=bK I1;have _:0<=Bj8/\Bj8<2:=by have:=EK Bte;simp only[Br,Bz] at this;omega
 have i:(CT [b.cell,b.Ff]).getD (Int.toNat Bj8) []=[(.int .i64 VP)]:=D1 _ Bte;have j:=i;try simp only[FY,FX,FW,GZ,FV,GY,FZ,G1,HF,FH,Hq,Hr,T4,Bv] at j
 obtain ⟨_,I1⟩ | ⟨_,I1⟩:=cK I1
 . refine Dd [0,0,0,0,0,0,0,0,2,0,0,0,0,0] ?_;refine Sc I1 F7 ?_;rintro ⟨_,_⟩ I1;obtain ⟨_,I1⟩ | ⟨_,I1⟩:=cK I1
   . exact AL (Be0 _ _ (kI I1))
   obtain ⟨_,I1,_⟩:=jK DZ I1;exact AL (Be0 _ _ (kI I1))
 exact AL (Be0 _ _ (kI I1))
def KU(b:DX)(a:KP):Option (Int):=
 cond (a.Dx=3) (some a.Ev) (cond (a.Dx=1) (cond (0<=a.DY) ((CU b.CS a.DY).bind λ G3=>some G3.pick) (cond (a.Dx=2) (some (-1)) (some (-1)))) (cond (a.Dx=2) (cond (0<=a.DY) ((CU b.CS a.DY).bind λ e=>some e.drop) (some (-1))) (some (-1))))
theorem US{b e r}(a:KU b e=some r):
   Rq 149 [.ptr 1000000 0,.agg e.c] (DX.h2 b) (DX.h2 b) (iD r):=by
 refine EA func149 Aid ?_;unfold KU at a;obtain ⟨_,a⟩ | ⟨_,a⟩:=cE a
 . obtain ⟨_,a⟩ | ⟨_,a⟩:=cE a
   . refine cO a λ _ a=>?_;refine cO a λ _ a=>?_;refine Dd [0,0,0,0,0,0,0,0,0,0,0] ?_;obtain ⟨_,a,_⟩:=jE EG a;exact zO a
   obtain ⟨_,a⟩ | ⟨_,a⟩:=cE a
   . refine cO a λ _ a=>?_;exact zO a
   refine Dd [0,0,0,0,0,0,0,0,0,0,0] ?_;obtain ⟨_,a,_⟩:=jE EG a;exact zO a
 exact zO a
def Hf(a:DX)(b:Int)(e:Int)(f:Int):Option Ak:=
 cond (a.CP.length+1<10000000) (some (a.CP++[(⟨0,b,e,f⟩:Ety)])) none
theorem It{b e f g r}(a:Hf b e f g=some r):
   Rq 121 [.ptr 1000000 0,iD e,iD f,iD g] (DX.h2 b) (DX.h2 ({b with CP:=r})) (.Em []):=by
 refine EA func121 Aig ?_;unfold Hf at a;obtain ⟨i,a⟩:=gE a;refine He i ?_;exact zO a
def Ke(a:DX)(b:Int):Option (Aa×Ab×Ag×Ak):=
 (LQ (⟨a.CQ,a.CR⟩:KM) b).bind λ (x1,x2,x3)=>cond (x3=0) ((CU a.CO b).bind λ e=>(Hf {a with CQ:=x1.CQ,CR:=x1.CR,CO:=a.CO.set b.toNat {e with wait:=0}} 10 b x2).bind λ Ir=>some (x1.CQ,x1.CR,(a.CO.set b.toNat {e with wait:=0}),Ir)) (some (a.CQ,a.CR,a.CO,a.CP))
theorem SA{b e r}(a:Ke b e=some r):
   Rq 140 [.ptr 1000000 0,iD e] (DX.h2 b) (DX.h2 ({b with CQ:=r.1,CR:=r.2.1,CO:=r.2.2.1,CP:=r.2.2.2})) (.Em []):=by
 refine EA func140 Aif ?_;unfold Ke at a;refine Ec a Xk ?_;rintro ⟨_,_,_⟩ a;refine cO a λ _ a=>?_;obtain ⟨_,a,_⟩:=jE Db a;refine Ec a It λ _ a=>?_;exact zO a
def Aac(b:DX):Ag×Ak×Aa×Ab×Int->Option ((Ag×Ak×Aa×Ab×Int)⊕((Ag×Ak×Aa×Ab×Int)))
 | (e,i,f,g,a)=>cond (a<(e.length:Int)) ((CU e a).bind λ Hy=>(K8 (⟨f,g⟩:KM) a).bind λ I4=>cond (Hy.state=1) (cond (I4<0) (some (.inl (e,i,f,g,(i64.wrap (a+1))))) (cond ((b.blocks.length:Int)<=I4) (some (.inl (e,i,f,g,(i64.wrap (a+1))))) (cond (Hy.cell<0) (some (.inl (e,i,f,g,(i64.wrap (a+1))))) (cond ((b.blocks.length:Int)<=Hy.cell) (some (.inl (e,i,f,g,(i64.wrap (a+1))))) (cond (Hy.wait<b.cp) (some (.inl (e,i,f,g,(i64.wrap (a+1))))) (cond (b.cd<=Hy.EI) (some (.inl (e,i,f,g,(i64.wrap (a+1))))) ((KU {b with CQ:=f,CR:=g,CO:=e,CP:=i} Hy).bind λ Mv=>cond (Mv<0) (some (.inl (e,i,f,g,(i64.wrap (a+1))))) ((MC (⟨b.blocks,b.next,b.CV,b.C8,b.cq,b.ca,b.cd,b.cp⟩:Nt) (⟨b.closed,b.Dp,b.C0⟩:Me) (⟨f,g⟩:KM) Hy.cell I4 Mv).bind λ (KR,Nj)=>cond Nj ((Ke {b with CQ:=f,CR:=g,CO:=e,CP:=i} a).bind λ (Sd,H6,WS,QW)=>(Hf {b with CQ:=Sd,CR:=H6,CO:=WS,CP:=QW} 12 a 0).bind λ j=>cond (WS.length=e.length) ((CU WS a).bind λ Mu=>(CU (WS.set a.toNat {Mu with De:=KR}) a).bind λ Ue=>some (.inl (((WS.set a.toNat {Mu with De:=KR}).set a.toNat {Ue with EI:=(i64.wrap (Ue.EI+1))}),j,Sd,H6,(i64.wrap (a+1))))) none) (some (.inl (e,i,f,g,(i64.wrap (a+1))))))))))))) (some (.inl (e,i,f,g,(i64.wrap (a+1)))))) (some (.inr (e,i,f,g,a)))
def OJ(a:DX):Option (Aa×Ab×Ag×Ak):=
 (C9 (Aac a) (a.CO,a.CP,a.CQ,a.CR,0)).bind (λ (v54,v55,v56,v57,v58)=>some (v56,v57,v54,v55))
theorem Alr{a r}(b:OJ a=some r):
   Rq 95 [.ptr 1000000 0] (DX.h2 a) (DX.h2 ({a with CQ:=r.1,CR:=r.2.1,CO:=r.2.2.1,CP:=r.2.2.2})) (.Em []):=by
 refine EA func95 Bfc ?_;unfold OJ at b;obtain ⟨j,g,b⟩:=bE b;refine H2 g [0] [] (λ q=>[(2,iD q.2.2.2.2)]) (λ q=>DX.h2 ({a with CQ:=q.2.2.1,CR:=q.2.2.2.1,CO:=q.1,CP:=q.2.1})) ?_;rintro ⟨l,m,n,o,k⟩ _ Dr L3;rw[Aac.eq_1] at Dr;obtain ⟨_,Dr⟩ | ⟨_,Dr⟩:=cK Dr
 . cases kR Dr;exact zO b
 obtain ⟨_,Dr,_⟩:=jK Db Dr;refine Fy Dr LR λ _ Dr=>?_;refine Dd [0,0,0,0,0,0,0,0,0,0,0,0,0,0,0,0,0,0,0,0,0,0,0,0,0,0,0,0,0,0,0,0,0,0,0,0,0,0,0,0,0,0,0,0,0,0,0,0,0,0,0,0,0,0,0] ?_;obtain ⟨_,Dr⟩ | ⟨_,Dr⟩:=cK Dr
 . exact AL (L3 _ _ (kI Dr))
 obtain ⟨_,Dr⟩ | ⟨_,Dr⟩:=cK Dr
 . obtain ⟨_,Dr⟩ | ⟨_,Dr⟩:=cK Dr
   . obtain ⟨_,Dr⟩ | ⟨_,Dr⟩:=cK Dr
     . obtain ⟨_,Dr⟩ | ⟨_,Dr⟩:=cK Dr
       . obtain ⟨_,Dr⟩ | ⟨_,Dr⟩:=cK Dr
         . obtain ⟨_,Dr⟩ | ⟨_,Dr⟩:=cK Dr
           . refine Fy Dr US λ _ Dr=>?_;obtain ⟨_,Dr⟩ | ⟨_,Dr⟩:=cK Dr
             . refine Dd [0,0,0,0,0,0,0,0,0,0,0,0,0,0,0,0,0,0,0,0,2,0,0,0,0,0] ?_;refine Sc Dr Ag0 ?_;rintro ⟨_,_⟩ Dr;obtain ⟨_,Dr⟩ | ⟨_,Dr⟩:=cK Dr
               . exact AL (L3 _ _ (kI Dr))
               refine Fy Dr SA ?_;rintro ⟨_,_,WS,_⟩ Dr;refine Fy Dr It λ _ Dr=>?_;obtain ⟨e,Dr⟩:=gK Dr;have i:(l.length=WS.length)=True:=eq_true (Bg e).symm;obtain ⟨_,Dr,_⟩:=jK Db Dr;obtain ⟨_,Dr,_,f,_⟩:=jK Db Dr;have _:=sl f;exact AL (L3 _ _ (kI Dr))
             exact AL (L3 _ _ (kI Dr))
           exact AL (L3 _ _ (kI Dr))
         exact AL (L3 _ _ (kI Dr))
       exact AL (L3 _ _ (kI Dr))
     exact AL (L3 _ _ (kI Dr))
   exact AL (L3 _ _ (kI Dr))
 exact AL (L3 _ _ (kI Dr))
def S1(a:KM)(b:Int)(e:Int):Option (KM×Int):=
 (LO a b e).bind λ f=>cond (f=0) ((K8 a b).bind λ g=>cond (0<=g) (some ((⟨[],[]⟩:KM),24)) ((CU a.CQ e).bind λ i=>cond (i=b) (some ((⟨[],[]⟩:KM),24)) ((H9 a).bind λ Ju=>(CU Ju.CR e).bind λ I8=>cond (I8.length+1<10000000) (some ((⟨Ju.CQ,(Ju.CR.set e.toNat (I8++[b]))⟩:KM),0)) none))) (some ((⟨[],[]⟩:KM),f))
theorem Arw{i j e r}(a:S1 i j e=some r):
   Rq 151 [.agg i.c,iD j,iD e] [] [] (.Em [.agg r.1.c,iD r.2]):=by
 refine EA func151 Azl ?_;unfold S1 at a;refine Ec a Xg λ _ a=>?_;refine cP a λ _ a=>?_;refine Ec a LR λ _ a=>?_;obtain ⟨_,a⟩ | ⟨_,a⟩:=cE a
 . obtain ⟨_,a,_⟩:=jE Dl a;obtain ⟨_,a⟩ | ⟨_,a⟩:=cE a
   . obtain ⟨Ju,g,a⟩:=bE a;refine A ?_;refine GJ (Xl g) ?_;rintro l r ⟨k,rfl,rfl⟩;refine Ey [3] [0,10,20,30,40,50,80,91,62,72,102,112,123] ?_;obtain ⟨I8,a,b,_⟩:=iE a;have _:(Ot Ju.CR).getD (Int.toNat e) []=CT I8:=Be2 b;have _:(Ot Ju.CR)[(Int.toNat e)]?.getD []=CT I8:=Axl b;have _:(Int.toNat e)<Ju.CR.length:=Bk5 b;have _:∀hx,(Ot Ju.CR)[(Int.toNat e)]'hx=CT I8:=Axk b;obtain ⟨f,a⟩:=gE a;refine He f ?_;exact zP a
   exact zP a
 exact zP a
def Aa9(i:DX):Ag×Ak×Aa×Ab×Int->Option ((Ag×Ak×Aa×Ab×Int)⊕((Ag×Ak×Aa×Ab×Int)))
 | (b,g,e,f,a)=>cond (a<(b.length:Int)) ((CU b a).bind λ Hy=>(Fa Hy).bind λ I4=>cond I4 (cond (Hy.Ff=(-1)) (cond Hy.DH (some (.inl (b,g,e,f,(i64.wrap (a+1))))) (cond ((Hy.De.length:Int)=0) (some (.inl (b,g,e,f,(i64.wrap (a+1))))) ((K8 (⟨e,f⟩:KM) a).bind λ Nr=>cond (0<=Nr) (some (.inl (b,g,e,f,(i64.wrap (a+1))))) ((CU Hy.De 0).bind λ Mv=>(S1 (⟨e,f⟩:KM) a Mv).bind λ (Nj,NH)=>cond (NH=0) ((Hf {i with CQ:=Nj.CQ,CR:=Nj.CR,CO:=b,CP:=g} 9 a Mv).bind λ H6=>some (.inl ((b.set a.toNat {Hy with DH:=false,wait:=0}),H6,Nj.CQ,Nj.CR,(i64.wrap (a+1))))) (some (.inl (b,g,e,f,(i64.wrap (a+1))))))))) (some (.inl (b,g,e,f,(i64.wrap (a+1)))))) (some (.inl (b,g,e,f,(i64.wrap (a+1)))))) (some (.inr (b,g,e,f,a)))
def OG(a:DX):Option (Aa×Ab×Ag×Ak):=
 (C9 (Aa9 a) (a.CO,a.CP,a.CQ,a.CR,0)).bind (λ (v40,v41,v42,v43,v44)=>some (v42,v43,v40,v41))
theorem All{a r}(b:OG a=some r):
   Rq 96 [.ptr 1000000 0] (DX.h2 a) (DX.h2 ({a with CQ:=r.1,CR:=r.2.1,CO:=r.2.2.1,CP:=r.2.2.2})) (.Em []):=by
 refine EA func96 Bfb ?_;unfold OG at b;obtain ⟨g,e,b⟩:=bE b;refine A ?_;refine EX e (λ q=>⟨[(0,.ptr 1000000 0),(2,iD q.2.2.2.2)],(DX.h2 ({a with CQ:=q.2.2.1,CR:=q.2.2.2.1,CO:=q.1,CP:=q.2.1})),94⟩) ((Wk.forget AZ)) ?_;rintro ⟨j,k,l,m,i⟩ _ Dr L3;rw[Aa9.eq_1] at Dr;obtain ⟨_,Dr⟩ | ⟨_,Dr⟩:=cK Dr
 . cases kR Dr;exact zO b
 obtain ⟨Hy,Dr,_⟩:=jK Db Dr;refine Fy Dr GK λ _ Dr=>?_;obtain ⟨_,Dr⟩ | ⟨_,Dr⟩:=cK Dr
 . refine A ?_;exact L3 _ _ (kI Dr) ((Wk.forget AZ))
 obtain ⟨_,Dr⟩ | ⟨_,Dr⟩:=cK Dr
 . refine A ?_;exact L3 _ _ (kI Dr) ((Wk.forget AZ))
 obtain ⟨_,Dr⟩ | ⟨_,Dr⟩:=cK Dr
 . obtain ⟨_,Dr⟩ | ⟨_,Dr⟩:=cK Dr
   . refine Fy Dr LR λ _ Dr=>?_;obtain ⟨_,Dr⟩ | ⟨_,Dr⟩:=cK Dr
     . refine Ey [1000000,1000001] [0,10,20,30,40,50,60,70,80,90,100,110,161,122,130,140,150,172,180] ?_;obtain ⟨_,Dr,f,_⟩:=iK Dr;have _:(CT Hy.De).getD 0 []=_:=Dl f;refine Sc Dr Arw ?_;rintro ⟨_,_⟩ Dr;obtain ⟨_,Dr⟩ | ⟨_,Dr⟩:=cK Dr
       . refine A ?_;exact L3 _ _ (kI Dr) ((Wk.forget AZ))
       refine Fy Dr It λ _ Dr=>?_;refine A ?_;exact L3 _ _ (kI Dr) ((Wk.forget AZ))
     refine A ?_;exact L3 _ _ (kI Dr) ((Wk.forget AZ))
   refine A ?_;exact L3 _ _ (kI Dr) ((Wk.forget AZ))
 refine A ?_;exact L3 _ _ (kI Dr) ((Wk.forget AZ))
def Af6(e:DX)(n:KM)(o:AA):Ag×Aw×Ak×AA×Int->Option ((Ag×Aw×Ak×AA×Int)⊕((Ag×Aw×Ak×AA×Int)))
 | (a,b,I9,F4,Hu)=>cond (Hu<(o.length:Int)) ((CU o Hu).bind λ Fj=>(CU a Fj.CZ).bind λ OW=>(Hf {e with CQ:=n.CQ,CR:=n.CR,CO:=a,DV:=b,CP:=I9,FG:=F4} 11 Fj.CZ Fj.cell).bind λ Mv=>(CU (a.set Fj.CZ.toNat {OW with wait:=0}) Fj.CZ).bind λ LG=>cond (LG.state=0) ((CU ((a.set Fj.CZ.toNat {OW with wait:=0}).set Fj.CZ.toNat {LG with state:=1}) Fj.CZ).bind λ f=>(CU (((a.set Fj.CZ.toNat {OW with wait:=0}).set Fj.CZ.toNat {LG with state:=1}).set Fj.CZ.toNat {f with cell:=Fj.cell}) Fj.CZ).bind λ g=>(CU ((((a.set Fj.CZ.toNat {OW with wait:=0}).set Fj.CZ.toNat {LG with state:=1}).set Fj.CZ.toNat {f with cell:=Fj.cell}).set Fj.CZ.toNat {g with Dx:=0}) Fj.CZ).bind λ Sv=>(K2 (⟨e.blocks,e.next,e.CV,e.C8,e.cq,e.ca,e.cd,e.cp⟩:Nt) Sv.cell).bind λ Arm=>cond (F4.length+1<10000000) (some (.inl ((((((a.set Fj.CZ.toNat {OW with wait:=0}).set Fj.CZ.toNat {LG with state:=1}).set Fj.CZ.toNat {f with cell:=Fj.cell}).set Fj.CZ.toNat {g with Dx:=0}).set Fj.CZ.toNat {Sv with De:=Arm}),b,Mv,(F4++[Fj]),(i64.wrap (Hu+1))))) none) ((CU ((a.set Fj.CZ.toNat {OW with wait:=0}).set Fj.CZ.toNat {LG with Ff:=Fj.cell}) Fj.CZ).bind λ H6=>cond (0<=(if (H6.De.length:Int)<1 then (H6.De.length:Int) else 1)/\(if (H6.De.length:Int)<1 then (H6.De.length:Int) else 1)<=(H6.De.length:Int)/\(H6.De.length:Int)<=(H6.De.length:Int)) (cond (((H6.De.take H6.De.length).drop (Int.toNat (if (H6.De.length:Int)<1 then (H6.De.length:Int) else 1))).length<10000000) ((CU (((a.set Fj.CZ.toNat {OW with wait:=0}).set Fj.CZ.toNat {LG with Ff:=Fj.cell}).set Fj.CZ.toNat {H6 with De:=((H6.De.take H6.De.length).drop (Int.toNat (if (H6.De.length:Int)<1 then (H6.De.length:Int) else 1)))}) Fj.CZ).bind λ NG=>(CU ((((a.set Fj.CZ.toNat {OW with wait:=0}).set Fj.CZ.toNat {LG with Ff:=Fj.cell}).set Fj.CZ.toNat {H6 with De:=((H6.De.take H6.De.length).drop (Int.toNat (if (H6.De.length:Int)<1 then (H6.De.length:Int) else 1)))}).set Fj.CZ.toNat {NG with seq:=(IntKind.u64.wrap (NG.seq+1))}) Fj.CZ).bind λ UP=>(CU (((((a.set Fj.CZ.toNat {OW with wait:=0}).set Fj.CZ.toNat {LG with Ff:=Fj.cell}).set Fj.CZ.toNat {H6 with De:=((H6.De.take H6.De.length).drop (Int.toNat (if (H6.De.length:Int)<1 then (H6.De.length:Int) else 1)))}).set Fj.CZ.toNat {NG with seq:=(IntKind.u64.wrap (NG.seq+1))}).set Fj.CZ.toNat {UP with LF:=false}) Fj.CZ).bind λ VO=>cond ((VO.De.length:Int)=0) (cond (VO.Dx=1) ((CU ((((((a.set Fj.CZ.toNat {OW with wait:=0}).set Fj.CZ.toNat {LG with Ff:=Fj.cell}).set Fj.CZ.toNat {H6 with De:=((H6.De.take H6.De.length).drop (Int.toNat (if (H6.De.length:Int)<1 then (H6.De.length:Int) else 1)))}).set Fj.CZ.toNat {NG with seq:=(IntKind.u64.wrap (NG.seq+1))}).set Fj.CZ.toNat {UP with LF:=false}).set Fj.CZ.toNat {VO with DH:=true}) Fj.CZ).bind λ l=>(Ky l Fj.CZ).bind λ m=>cond (b.length+1<10000000) (some (.inl (((((((a.set Fj.CZ.toNat {OW with wait:=0}).set Fj.CZ.toNat {LG with Ff:=Fj.cell}).set Fj.CZ.toNat {H6 with De:=((H6.De.take H6.De.length).drop (Int.toNat (if (H6.De.length:Int)<1 then (H6.De.length:Int) else 1)))}).set Fj.CZ.toNat {NG with seq:=(IntKind.u64.wrap (NG.seq+1))}).set Fj.CZ.toNat {UP with LF:=false}).set Fj.CZ.toNat {VO with DH:=true}),(b++[m]),Mv,F4,(i64.wrap (Hu+1))))) none) ((CU ((((((a.set Fj.CZ.toNat {OW with wait:=0}).set Fj.CZ.toNat {LG with Ff:=Fj.cell}).set Fj.CZ.toNat {H6 with De:=((H6.De.take H6.De.length).drop (Int.toNat (if (H6.De.length:Int)<1 then (H6.De.length:Int) else 1)))}).set Fj.CZ.toNat {NG with seq:=(IntKind.u64.wrap (NG.seq+1))}).set Fj.CZ.toNat {UP with LF:=false}).set Fj.CZ.toNat {VO with DH:=decide (VO.Dx=2)}) Fj.CZ).bind λ j=>(Ky j Fj.CZ).bind λ k=>cond (b.length+1<10000000) (some (.inl (((((((a.set Fj.CZ.toNat {OW with wait:=0}).set Fj.CZ.toNat {LG with Ff:=Fj.cell}).set Fj.CZ.toNat {H6 with De:=((H6.De.take H6.De.length).drop (Int.toNat (if (H6.De.length:Int)<1 then (H6.De.length:Int) else 1)))}).set Fj.CZ.toNat {NG with seq:=(IntKind.u64.wrap (NG.seq+1))}).set Fj.CZ.toNat {UP with LF:=false}).set Fj.CZ.toNat {VO with DH:=decide (VO.Dx=2)}),(b++[k]),Mv,F4,(i64.wrap (Hu+1))))) none)) ((CU ((((((a.set Fj.CZ.toNat {OW with wait:=0}).set Fj.CZ.toNat {LG with Ff:=Fj.cell}).set Fj.CZ.toNat {H6 with De:=((H6.De.take H6.De.length).drop (Int.toNat (if (H6.De.length:Int)<1 then (H6.De.length:Int) else 1)))}).set Fj.CZ.toNat {NG with seq:=(IntKind.u64.wrap (NG.seq+1))}).set Fj.CZ.toNat {UP with LF:=false}).set Fj.CZ.toNat {VO with DH:=false}) Fj.CZ).bind λ i=>(Ky i Fj.CZ).bind λ RU=>cond (b.length+1<10000000) (some (.inl (((((((a.set Fj.CZ.toNat {OW with wait:=0}).set Fj.CZ.toNat {LG with Ff:=Fj.cell}).set Fj.CZ.toNat {H6 with De:=((H6.De.take H6.De.length).drop (Int.toNat (if (H6.De.length:Int)<1 then (H6.De.length:Int) else 1)))}).set Fj.CZ.toNat {NG with seq:=(IntKind.u64.wrap (NG.seq+1))}).set Fj.CZ.toNat {UP with LF:=false}).set Fj.CZ.toNat {VO with DH:=false}),(b++[RU]),Mv,F4,(i64.wrap (Hu+1))))) none)) none) none)) (some (.inr (a,b,I9,F4,Hu)))
def QR(a:DX):Option (Aa×Ab×Ag×Aw×Ak×AA):=
 (N4 (⟨a.CQ,a.CR⟩:KM) a.closed).bind λ (x1,x2,x3)=>cond (x3=0) ((C9 (Af6 a x1 x2) (a.CO,a.DV,a.CP,a.FG,0)).bind (λ (v105,Bxv,v107,Bxu,v109)=>some (x1.CQ,x1.CR,v105,Bxv,v107,Bxu))) (some (a.CQ,a.CR,a.CO,a.DV,a.CP,a.FG))
theorem Aq9{b r}(a:QR b=some r):
   Rq 97 [.ptr 1000000 0] (DX.h2 b) (DX.h2 ({b with CQ:=r.1,CR:=r.2.1,CO:=r.2.2.1,DV:=r.2.2.2.1,CP:=r.2.2.2.2.1,FG:=r.2.2.2.2.2})) (.Em []):=by
 refine EA func97 Bfa ?_;unfold QR at a;refine Ey [1000000] [0,10,20,30,40,50,60,70,80,90,100,161,112,120,130,140,150,172,180,190] ?_;refine FO a Ak8 ?_;rintro ⟨y,_,_⟩ a;refine cO a λ _ a=>?_;obtain ⟨z,x,a⟩:=bE a;refine H2 x [0,3] [] (λ q=>[(5,iD q.2.2.2.2)]) (λ q=>DX.h2 ({b with CQ:=y.CQ,CR:=y.CR,CO:=q.1,DV:=q.2.1,CP:=q.2.2.1,FG:=q.2.2.2.1})) ?_;rintro ⟨B,E,I9,F4,Hu⟩ _ DQ XE;rw[Af6.eq_1] at DQ;obtain ⟨_,DQ⟩ | ⟨_,DQ⟩:=cK DQ
 . cases kR DQ;exact zO a
 obtain ⟨_,DQ,_⟩:=jK Apm DQ;obtain ⟨_,DQ,_⟩:=jK Db DQ;refine Fy DQ It λ _ DQ=>?_;obtain ⟨_,DQ,_,k,_⟩:=jK Db DQ;have _:=sl k;obtain ⟨_,DQ⟩ | ⟨_,DQ⟩:=cK DQ
 . refine C5 [1000001] [0,0,0,0,0,0,0,0,0,0,0,0,2,0,0,3] ?_;obtain ⟨H6,DQ,_,l,_⟩:=jK Db DQ;have _:=sl l;obtain ⟨e,DQ⟩:=gK DQ;have _:=Bg e;obtain ⟨f,DQ⟩:=gK DQ;(try simp only[go_sem, *,J7 H6.De]);refine An f ?_;obtain ⟨_,DQ,_,m,_⟩:=jK Db DQ;have _:=sl m;obtain ⟨_,DQ,_,n,_⟩:=jK Db DQ;have _:=sl n;obtain ⟨_,DQ,_,o,_⟩:=jK Db DQ;have _:=sl o;obtain ⟨_,DQ⟩ | ⟨_,DQ⟩:=cK DQ
   . (try simp only[go_sem, *,J7 H6.De]);refine Am2 [1000000,1000001] [0,0,0,0,0,0,0,0,0,0,2,1,2,0,0,0,3] ?_;obtain ⟨_,DQ,_,p,_⟩:=jK Db DQ;have _:=sl p;refine Sc DQ Pb λ _ DQ=>?_;obtain ⟨g,DQ⟩:=gK DQ;refine He g ?_;exact AL (XE _ _ (kI DQ))
   obtain ⟨_,DQ⟩ | ⟨_,DQ⟩:=cK DQ
   . (try simp only[go_sem, *,J7 H6.De]);refine Am2 [1000000,1000001] [0,0,0,0,0,0,0,0,0,0,2,1,2,0,0,0,3] ?_;obtain ⟨_,DQ,_,s,_⟩:=jK Db DQ;have _:=sl s;refine Sc DQ Pb λ _ DQ=>?_;obtain ⟨i,DQ⟩:=gK DQ;refine He i ?_;exact AL (XE _ _ (kI DQ))
   (try simp only[go_sem, *,J7 H6.De]);refine Am2 [1000000,1000001] [0,0,0,0,0,0,0,0,0,0,2,1,2,0,0,0,3] ?_;obtain ⟨_,DQ,_,t,_⟩:=jK Db DQ;have _:=sl t;refine Sc DQ Pb λ _ DQ=>?_;obtain ⟨j,DQ⟩:=gK DQ;refine He j ?_;exact AL (XE _ _ (kI DQ))
 obtain ⟨_,DQ,_,u,_⟩:=jK Db DQ;have _:=sl u;obtain ⟨_,DQ,_,v,_⟩:=jK Db DQ;have _:=sl v;refine C5 [1000000,1000001] [0,0,0,0,0,0,0,0,0,2,0,0,3] ?_;obtain ⟨_,DQ,_,w,_⟩:=jK Db DQ;have _:=sl w;refine Sc DQ NT λ _ DQ=>?_;refine C5 [1000000] [0,0,0,0,0,0,0,0,0,0,1,2,0,0,0,3] ?_;obtain ⟨Cc0,DQ⟩:=gK DQ;refine He Cc0 ?_;exact AL (XE _ _ (kI DQ))
def Ajc(g:DX)(I8:Aa):Ag×Ak×Ad×Aa×Ab×Int->Option ((Ag×Ak×Ad×Aa×Ab×Int)⊕((Ag×Ak×Ad×Aa×Ab×Int)))
 | (a,Ls,RZ,YP,e,J9)=>cond (J9<(I8.length:Int)) ((CU a J9).bind λ YC=>(Fa YC).bind λ QW=>cond QW ((CU I8 J9).bind λ b=>cond (YC.Ev=b) (some (.inl (a,Ls,RZ,YP,e,(i64.wrap (J9+1))))) ((CU RZ J9).bind λ l=>(HE {g with CQ:=YP,CR:=e,CO:=a.set J9.toNat {YC with Ev:=b},CP:=Ls} 19 J9 b).bind λ Va=>(CU (a.set J9.toNat {YC with Ev:=b}) J9).bind λ i=>cond (i.state=0) ((G2 {g with CQ:=YP,CR:=e,CO:=a.set J9.toNat {YC with Ev:=b},CP:=Va} J9).bind λ (x60,x61,x62,x63)=>cond (x62.length=a.length) ((CU x62 J9).bind λ f=>cond (0<=b) ((CU g.CV b).bind λ j=>(CU (x62.set J9.toNat {f with De:=[]}) J9).bind λ k=>some (.inl (((x62.set J9.toNat {f with De:=[]}).set J9.toNat {k with De:=[j.base]}),x63,(RZ.set J9.toNat true),x60,x61,(i64.wrap (J9+1))))) (some (.inl ((x62.set J9.toNat {f with De:=[]}),x63,(RZ.set J9.toNat true),x60,x61,(i64.wrap (J9+1)))))) none) (some (.inl ((a.set J9.toNat {YC with Ev:=b}),Va,(RZ.set J9.toNat true),YP,e,(i64.wrap (J9+1))))))) (some (.inl (a,Ls,RZ,YP,e,(i64.wrap (J9+1)))))) (some (.inr (a,Ls,RZ,YP,e,J9)))
def Ajb(a:DX):Aa×Int->Option ((Aa×Int)⊕((Aa×Int)))
 | (b,e)=>cond (e<(a.CO.length:Int)) ((CU a.CO e).bind λ f=>cond (f.state=1) ((IL f).bind λ g=>(K3 (⟨a.blocks,a.next,a.CV,a.C8,a.cq,a.ca,a.cd,a.cp⟩:Nt) g).bind λ i=>cond (b.length+1<10000000) (some (.inl ((b++[i]),(i64.wrap (e+1))))) none) (cond (b.length+1<10000000) (some (.inl ((b++[(-1)]),(i64.wrap (e+1))))) none)) (some (.inr (b,e)))
def OI(a:DX):Option (Ad×Aa×Ab×Ag×Ak):=
 (C9 (Ajb a) ([],0)).bind (λ (v99,v100)=>(UJ a).bind λ Se=>(Kg a.CO).bind λ Bnb=>(K6 (⟨a.blocks,a.next,a.CV,a.C8,a.cq,a.ca,a.cd,a.cp⟩:Nt) Se Bnb v99).bind λ Aft=>cond (Aft.length<10000000) ((C9 (Ajc a Aft) (a.CO,a.CP,(List.replicate Aft.length false),a.CQ,a.CR,0)).bind (λ (Bno,v173,Bxq,v175,Bxp,v177)=>some (Bxq,v175,Bxp,Bno,v173))) none)
theorem A4{p:Prop}(h:p:=by simp[OQ,Bor,ev,get,Bx,ZB,ZBu,DX.h,GI.h,DX.h2,GI.h2]<;>rfl):p:=h
theorem Af5{b r}(a:OI b=some r):
   Rq 182 [.ptr 1000000 0] (DX.h b) (DX.h ({b with CQ:=r.2.1,CR:=r.2.2.1,CO:=r.2.2.2.1,CP:=r.2.2.2.2})) (sD (Dn r.1)):=by
 refine EA func182 Ayu ?_;unfold OI at a;obtain ⟨w,u,a⟩:=bE a;refine A ?_;refine EX u (λ q=>⟨[(0,.ptr 1000000 0),(3,rD 42 q.1),(4,iD q.2)],(DX.h b++[(42,.arr 3 1 (CT q.1))]),139⟩) ((Wk.nil (t:=3) (q:=42) (sz:=1) 3 rfl rfl AV).trans WL) ?_;rintro ⟨y,z⟩ _ EU Y9;rw[Ajb.eq_1] at EU;obtain ⟨_,EU⟩ | ⟨_,EU⟩:=cK EU
 . cases kR EU;(try dsimp only at a);refine Ey [1000000] [0,10,20,30,40,60,70,80,90,100,120,52,112,132,140] ?_;refine FO a Aj6 λ _ a=>?_;obtain ⟨_,l,a⟩:=bE a;refine A ?_;refine Am7 rfl rfl (Vm l) A4 ?_;rintro x r ⟨rfl,rfl⟩;refine ⟨_,_,_,rfl,Ais _,rfl,?_⟩;refine FO a Ac1 λ _ a=>?_;obtain ⟨e,a⟩:=gE a;refine He e ?_;obtain ⟨s,m,a⟩:=bE a;refine H2 m [0,7] [] (λ q=>[(8,rD 59 q.2.2.1),(9,iD q.2.2.2.2.2)]) (λ q=>DX.h ({b with CQ:=q.2.2.2.1,CR:=q.2.2.2.2.1,CO:=q.1,CP:=q.2.1})++[(59,.arr 4 1 (Dn q.2.2.1))]) ?_;rintro ⟨n,Ls,RZ,YP,v,J9⟩ _ HL Bdz;rw[Ajc.eq_1] at HL;obtain ⟨_,HL⟩ | ⟨_,HL⟩:=cK HL
   . cases kR HL;exact zP a
   obtain ⟨_,HL,_⟩:=jK Db HL;refine Dd [0,0,0,2,0,0,0,0,0,0,0,0,0,0,0,0] ?_;refine Sc HL GK λ _ HL=>?_;obtain ⟨_,HL⟩ | ⟨_,HL⟩:=cK HL
   . exact AL (Bdz _ _ (kI HL))
   obtain ⟨_,HL,_⟩:=jK Dl HL;obtain ⟨_,HL⟩ | ⟨_,HL⟩:=cK HL
   . obtain ⟨_,HL,_⟩:=jK DZ HL;refine Fy HL Gl λ _ HL=>?_;obtain ⟨_,HL,_,j,_⟩:=jK Db HL;have _:=sl j;obtain ⟨_,HL⟩ | ⟨_,HL⟩:=cK HL
     . exact AL (Bdz _ _ (kI HL))
     refine Fy HL H0 ?_;rintro ⟨_,_,o,_⟩ HL;obtain ⟨f,HL⟩:=gK HL;have p:(n.length=o.length)=True:=eq_true (Bg f).symm;obtain ⟨_,HL,_⟩:=jK Db HL;obtain ⟨_,HL⟩ | ⟨_,HL⟩:=cK HL
     . exact AL (Bdz _ _ (kI HL))
     refine Dd [0,0,0,0,0,0,0,0,0,0,0,0,0,1,0,0,3] ?_;obtain ⟨_,HL,_⟩:=jK Ex HL;obtain ⟨_,HL,_,k,_⟩:=jK Db HL;have _:=sl k;exact AL (Bdz _ _ (kI HL))
   exact AL (Bdz _ _ (kI HL))
 obtain ⟨_,EU,_⟩:=jK Db EU;obtain ⟨_,EU⟩ | ⟨_,EU⟩:=cK EU
 . obtain ⟨g,EU⟩:=gK EU;refine He g ?_;exact AL (Y9 _ _ (kI EU))
 refine Dd [0,0,0,0,0,2,2,0] ?_;refine Sc EU Kx λ _ EU=>?_;refine Sc EU NU λ _ EU=>?_;obtain ⟨i,EU⟩:=gK EU;refine He i ?_;exact AL (Y9 _ _ (kI EU))
def Ma(g:DX)(F4:Aa)(Hu:Ad)(H3:Aa)(IW:Aa)(KR:Ad)(e:Ao):Ag×Ak×Aa×Ab×Int->Option ((Ag×Ak×Aa×Ab×Int)⊕((Ag×Ak×Aa×Ab×Int)))
 | (WW,YO,a,ZI,b)=>cond (b<(WW.length:Int)) ((CU WW b).bind λ f=>cond (f.state=1) (cond (f.Dx=3) ((CU KR b).bind λ Bcj=>cond Bcj ((Gi {g with CQ:=a,CR:=ZI,closed:=Hu,Dp:=H3,C0:=IW,CO:=WW,CS:=e,C7:=false,CP:=YO,DD:=F4} b).bind λ (Amc,Bcd,Ari,Bn3)=>some (.inl (Ari,Bn3,Amc,Bcd,(i64.wrap (b+1))))) ((JG {g with CQ:=a,CR:=ZI,closed:=Hu,Dp:=H3,C0:=IW,CO:=WW,CS:=e,C7:=false,CP:=YO,DD:=F4} f).bind λ Bww=>cond Bww ((Gi {g with CQ:=a,CR:=ZI,closed:=Hu,Dp:=H3,C0:=IW,CO:=WW,CS:=e,C7:=false,CP:=YO,DD:=F4} b).bind λ (Aw8,Arj,Bn4,Bce)=>some (.inl (Bn4,Bce,Aw8,Arj,(i64.wrap (b+1))))) (cond (f.Dx=1) ((JG {g with CQ:=a,CR:=ZI,closed:=Hu,Dp:=H3,C0:=IW,CO:=WW,CS:=e,C7:=false,CP:=YO,DD:=F4} f).bind λ Amd=>cond Amd ((Ms {g with CQ:=a,CR:=ZI,closed:=Hu,Dp:=H3,C0:=IW,CO:=WW,CS:=e,C7:=false,CP:=YO,DD:=F4} f).bind λ Bcg=>(GM {g with CQ:=a,CR:=ZI,closed:=Hu,Dp:=H3,C0:=IW,CO:=WW,CS:=e,C7:=false,CP:=YO,DD:=F4} b Bcg).bind λ (P2,Bcf,VP,Ajq)=>some (.inl (VP,Ajq,P2,Bcf,(i64.wrap (b+1))))) (some (.inl (WW,YO,a,ZI,(i64.wrap (b+1)))))) (cond (f.Dx=2) ((JG {g with CQ:=a,CR:=ZI,closed:=Hu,Dp:=H3,C0:=IW,CO:=WW,CS:=e,C7:=false,CP:=YO,DD:=F4} f).bind λ Bn9=>cond Bn9 ((Ms {g with CQ:=a,CR:=ZI,closed:=Hu,Dp:=H3,C0:=IW,CO:=WW,CS:=e,C7:=false,CP:=YO,DD:=F4} f).bind λ Aan=>(GM {g with CQ:=a,CR:=ZI,closed:=Hu,Dp:=H3,C0:=IW,CO:=WW,CS:=e,C7:=false,CP:=YO,DD:=F4} b Aan).bind λ (Ark,Bn7,Bch,Bn6)=>some (.inl (Bch,Bn6,Ark,Bn7,(i64.wrap (b+1))))) (some (.inl (WW,YO,a,ZI,(i64.wrap (b+1)))))) (some (.inl (WW,YO,a,ZI,(i64.wrap (b+1))))))))) (cond (f.Dx=1) ((JG {g with CQ:=a,CR:=ZI,closed:=Hu,Dp:=H3,C0:=IW,CO:=WW,CS:=e,C7:=false,CP:=YO,DD:=F4} f).bind λ Bna=>cond Bna ((Ms {g with CQ:=a,CR:=ZI,closed:=Hu,Dp:=H3,C0:=IW,CO:=WW,CS:=e,C7:=false,CP:=YO,DD:=F4} f).bind λ Arl=>(GM {g with CQ:=a,CR:=ZI,closed:=Hu,Dp:=H3,C0:=IW,CO:=WW,CS:=e,C7:=false,CP:=YO,DD:=F4} b Arl).bind λ (Amh,Sy,Bck,Amg)=>some (.inl (Bck,Amg,Amh,Sy,(i64.wrap (b+1))))) (some (.inl (WW,YO,a,ZI,(i64.wrap (b+1)))))) (cond (f.Dx=2) ((JG {g with CQ:=a,CR:=ZI,closed:=Hu,Dp:=H3,C0:=IW,CO:=WW,CS:=e,C7:=false,CP:=YO,DD:=F4} f).bind λ i=>cond i ((Ms {g with CQ:=a,CR:=ZI,closed:=Hu,Dp:=H3,C0:=IW,CO:=WW,CS:=e,C7:=false,CP:=YO,DD:=F4} f).bind λ Sv=>(GM {g with CQ:=a,CR:=ZI,closed:=Hu,Dp:=H3,C0:=IW,CO:=WW,CS:=e,C7:=false,CP:=YO,DD:=F4} b Sv).bind λ (x99,Bcl,Se,Arm)=>some (.inl (Se,Arm,x99,Bcl,(i64.wrap (b+1))))) (some (.inl (WW,YO,a,ZI,(i64.wrap (b+1)))))) (some (.inl (WW,YO,a,ZI,(i64.wrap (b+1)))))))) (some (.inl (WW,YO,a,ZI,(i64.wrap (b+1)))))) (some (.inr (WW,YO,a,ZI,b)))
def L9(j:DX)(F4:Aa)(Hu:Ad)(H3:Aa)(IW:Aa):Ag×Ao×Ak×Aa×Ab×Int->Option ((Ag×Ao×Ak×Aa×Ab×Int)⊕((Ag×Ao×Ak×Aa×Ab×Int)))
 | (e,b,f,g,i,a)=>cond (a<(b.length:Int)) ((QQ {j with CQ:=g,CR:=i,closed:=Hu,Dp:=H3,C0:=IW,CO:=e,CS:=b,C7:=false,CP:=f,DD:=F4} a).bind λ Bmz=>cond Bmz ((Zu {j with CQ:=g,CR:=i,closed:=Hu,Dp:=H3,C0:=IW,CO:=e,CS:=b,C7:=false,CP:=f,DD:=F4} a 5 5).bind λ (Bmy,Bwg,Bmx,Bmw,Bmv)=>some (.inl (Bmx,Bmw,Bmv,Bmy,Bwg,(i64.wrap (a+1))))) (some (.inl (e,b,f,g,i,(i64.wrap (a+1)))))) (some (.inr (e,b,f,g,i,a)))
def Af1(f:DX):Ag×Ao×Ak×Aa×Ad×Aa×Aa×Bool×Aa×Ab->Option ((Ag×Ao×Ak×Aa×Ad×Aa×Aa×Bool×Aa×Ab)⊕((Aa×Ab×Ad×Aa×Aa×Ag×Ao×Bool×Ak×Aa)))
 | (b,a,I9,F4,Hu,H3,IW,My,M7,e)=>(TX {f with CQ:=M7,CR:=e,closed:=Hu,Dp:=H3,C0:=IW,CO:=b,CS:=a,C7:=My,CP:=I9,DD:=F4}).bind λ OW=>cond OW (cond My ((HE {f with CQ:=M7,CR:=e,closed:=Hu,Dp:=H3,C0:=IW,CO:=b,CS:=a,C7:=false,CP:=I9,DD:=F4} 13 0 0).bind λ Bv3=>(OI {f with CQ:=M7,CR:=e,closed:=Hu,Dp:=H3,C0:=IW,CO:=b,CS:=a,C7:=false,CP:=Bv3,DD:=F4}).bind λ (Bv2,Bv1,Bv0,Buz,Buy)=>(C9 (L9 f F4 Hu H3 IW) (Buz,a,Buy,Bv1,Bv0,0)).bind (λ (Bx8,Bj7,Bx7,Bx6,Bx5,v457)=>(C9 (Ma f F4 Hu H3 IW Bv2 Bj7) (Bx8,Bx7,Bx6,Bx5,0)).bind (λ (Bni,Bnh,Bng,Bnf,v559)=>(Iq {f with CQ:=Bng,CR:=Bnf,closed:=Hu,Dp:=H3,C0:=IW,CO:=Bni,CS:=Bj7,C7:=false,CP:=Bnh,DD:=F4}).bind λ Biz=>cond ((Biz.length:Int)=0) (some (.inr ((Bng,Bnf,Hu,H3,IW,Bni,Bj7,false,Bnh,F4):Aa×Ab×Ad×Aa×Aa×Ag×Ao×Bool×Ak×Aa))) ((Pr {f with CQ:=Bng,CR:=Bnf,closed:=Hu,Dp:=H3,C0:=IW,CO:=Bni,CS:=Bj7,C7:=false,CP:=Bnh,DD:=F4} Biz).bind λ (Bux,Buw,Buv,Buu,But,Bus,Bur,Buq)=>cond (F4.length+Biz.length<10000000) (some (.inl (Bus,Bur,Buq,(F4++Biz),Buv,Buu,But,false,Bux,Buw))) none)))) ((OI {f with CQ:=M7,CR:=e,closed:=Hu,Dp:=H3,C0:=IW,CO:=b,CS:=a,C7:=false,CP:=I9,DD:=F4}).bind λ (KR,Nj,NH,YC,Sd)=>(C9 (L9 f F4 Hu H3 IW) (YC,a,Sd,Nj,NH,0)).bind (λ (Bxo,v182,v183,Bxn,Bnn,Bxm)=>(C9 (Ma f F4 Hu H3 IW KR v182) (Bxo,v183,Bxn,Bnn,0)).bind (λ (Bnm,Bnl,Bnk,Bnj,v288)=>(Iq {f with CQ:=Bnk,CR:=Bnj,closed:=Hu,Dp:=H3,C0:=IW,CO:=Bnm,CS:=v182,C7:=false,CP:=Bnl,DD:=F4}).bind λ Aw3=>cond ((Aw3.length:Int)=0) (some (.inr ((Bnk,Bnj,Hu,H3,IW,Bnm,v182,false,Bnl,F4):Aa×Ab×Ad×Aa×Aa×Ag×Ao×Bool×Ak×Aa))) ((Pr {f with CQ:=Bnk,CR:=Bnj,closed:=Hu,Dp:=H3,C0:=IW,CO:=Bnm,CS:=v182,C7:=false,CP:=Bnl,DD:=F4} Aw3).bind λ (Bv9,Bv8,Bmm,Bv7,Bv6,Bv5,Bqs,Bml)=>cond (F4.length+Aw3.length<10000000) (some (.inl (Bv5,Bqs,Bml,(F4++Aw3),Bmm,Bv7,Bv6,false,Bv9,Bv8))) none))))) (cond My (some (.inr ((M7,e,Hu,H3,IW,b,a,true,I9,F4):Aa×Ab×Ad×Aa×Aa×Ag×Ao×Bool×Ak×Aa))) ((HE {f with CQ:=M7,CR:=e,closed:=Hu,Dp:=H3,C0:=IW,CO:=b,CS:=a,C7:=true,CP:=I9,DD:=F4} 13 1 0).bind λ Mv=>some (.inr ((M7,e,Hu,H3,IW,b,a,true,Mv,F4):Aa×Ab×Ad×Aa×Aa×Ag×Ao×Bool×Ak×Aa))))
def HG(a:DX):Option (Aa×Ab×Ad×Aa×Aa×Ag×Ao×Bool×Ak×Aa):=
 (C9 (Af1 a) (a.CO,a.CS,a.CP,a.DD,a.closed,a.Dp,a.C0,a.C7,a.CQ,a.CR)).bind (λ Byq=>some Byq)
theorem Jp{a r}(b:HG a=some r):
   Rq 134 [.ptr 1000000 0] (DX.h a) (DX.h ({a with CQ:=r.1,CR:=r.2.1,closed:=r.2.2.1,Dp:=r.2.2.2.1,C0:=r.2.2.2.2.1,CO:=r.2.2.2.2.2.1,CS:=r.2.2.2.2.2.2.1,C7:=r.2.2.2.2.2.2.2.1,CP:=r.2.2.2.2.2.2.2.2.1,DD:=r.2.2.2.2.2.2.2.2.2})) (.Em []):=by
 refine EA func134 Azz ?_;unfold HG at b;obtain ⟨y,f,b⟩:=bE b;refine H2 f [0] [] (λ _=>[]) (λ q=>DX.h ({a with CQ:=q.2.2.2.2.2.2.2.2.1,CR:=q.2.2.2.2.2.2.2.2.2,closed:=q.2.2.2.2.1,Dp:=q.2.2.2.2.2.1,C0:=q.2.2.2.2.2.2.1,CO:=q.1,CS:=q.2.1,C7:=q.2.2.2.2.2.2.2.1,CP:=q.2.2.1,DD:=q.2.2.2.1})) ?_;rintro ⟨E,H,I9,F4,Hu,H3,IW,My,M7,I⟩ _ EJ Aof;rw[Af1.eq_1] at EJ;refine Fy EJ Aty λ _ EJ=>?_;obtain ⟨_,EJ⟩ | ⟨_,EJ⟩:=cK EJ
 . obtain ⟨_,EJ⟩ | ⟨_,EJ⟩:=cK EJ
   . refine Fy EJ Gl λ _ EJ=>?_;cases kR EJ;exact zO b
   cases kR EJ;exact zO b
 obtain ⟨_,EJ⟩ | ⟨_,EJ⟩:=cK EJ
 . refine Fy EJ Af5 ?_;rintro ⟨_,_,_,_,_⟩ EJ;obtain ⟨z,g,EJ⟩:=bK EJ;refine H2 g [0,2] [] (λ q=>[(3,iD q.2.2.2.2.2)]) (λ q=>DX.h ({a with CQ:=q.2.2.2.1,CR:=q.2.2.2.2.1,closed:=Hu,Dp:=H3,C0:=IW,CO:=q.1,CS:=q.2.1,C7:=My,CP:=q.2.2.1,DD:=F4})) ?_;rintro ⟨K,j,N,Q,R,S⟩ _ XQ Bs8;rw[L9.eq_1] at XQ;obtain ⟨_,XQ⟩ | ⟨_,XQ⟩:=cK XQ
   . cases kR XQ;obtain ⟨B,i,EJ⟩:=bK EJ;refine H2 i [0,2] [] (λ q=>[(4,iD q.2.2.2.2)]) (λ q=>DX.h ({a with CQ:=q.2.2.1,CR:=q.2.2.2.1,closed:=Hu,Dp:=H3,C0:=IW,CO:=q.1,CS:=j,C7:=My,CP:=q.2.1,DD:=F4})) ?_;rintro ⟨WW,YO,T,ZI,U⟩ _ Ez Y8;rw[Ma.eq_1] at Ez;obtain ⟨_,Ez⟩ | ⟨_,Ez⟩:=cK Ez
     . cases kR Ez;refine Fy EJ PU λ _ EJ=>?_;obtain ⟨_,EJ⟩ | ⟨_,EJ⟩:=cK EJ
       . refine Fy EJ Zn ?_;rintro ⟨_,_,_,_,_,_,_,_⟩ EJ;obtain ⟨e,EJ⟩:=gK EJ;refine He e ?_;exact AL (Aof _ _ (kI EJ))
       cases kR EJ;exact zO b
     obtain ⟨_,Ez,_⟩:=jK Db Ez;obtain ⟨_,Ez⟩ | ⟨_,Ez⟩:=cK Ez
     . exact AL (Y8 _ _ (kI Ez))
     obtain ⟨_,Ez⟩ | ⟨_,Ez⟩:=cK Ez
     . obtain ⟨_,Ez⟩ | ⟨_,Ez⟩:=cK Ez
       . obtain ⟨_,Ez⟩ | ⟨_,Ez⟩:=cK Ez
         . exact AL (Y8 _ _ (kI Ez))
         refine Fy Ez Hc λ _ Ez=>?_;obtain ⟨_,Ez⟩ | ⟨_,Ez⟩:=cK Ez
         . exact AL (Y8 _ _ (kI Ez))
         refine Fy Ez JF λ _ Ez=>?_;refine Fy Ez Gb ?_;rintro ⟨_,_,_,_⟩ Ez;exact AL (Y8 _ _ (kI Ez))
       refine Fy Ez Hc λ _ Ez=>?_;obtain ⟨_,Ez⟩ | ⟨_,Ez⟩:=cK Ez
       . exact AL (Y8 _ _ (kI Ez))
       refine Fy Ez JF λ _ Ez=>?_;refine Fy Ez Gb ?_;rintro ⟨_,_,_,_⟩ Ez;exact AL (Y8 _ _ (kI Ez))
     obtain ⟨_,Ez,_⟩:=jK DZ Ez;obtain ⟨_,Ez⟩ | ⟨_,Ez⟩:=cK Ez
     . refine Fy Ez Hc λ _ Ez=>?_;obtain ⟨_,Ez⟩ | ⟨_,Ez⟩:=cK Ez
       . obtain ⟨_,Ez⟩ | ⟨_,Ez⟩:=cK Ez
         . obtain ⟨_,Ez⟩ | ⟨_,Ez⟩:=cK Ez
           . exact AL (Y8 _ _ (kI Ez))
           refine Fy Ez Hc λ _ Ez=>?_;obtain ⟨_,Ez⟩ | ⟨_,Ez⟩:=cK Ez
           . exact AL (Y8 _ _ (kI Ez))
           refine Fy Ez JF λ _ Ez=>?_;refine Fy Ez Gb ?_;rintro ⟨_,_,_,_⟩ Ez;exact AL (Y8 _ _ (kI Ez))
         refine Fy Ez Hc λ _ Ez=>?_;obtain ⟨_,Ez⟩ | ⟨_,Ez⟩:=cK Ez
         . exact AL (Y8 _ _ (kI Ez))
         refine Fy Ez JF λ _ Ez=>?_;refine Fy Ez Gb ?_;rintro ⟨_,_,_,_⟩ Ez;exact AL (Y8 _ _ (kI Ez))
       refine Fy Ez HZ ?_;rintro ⟨_,_,_,_⟩ Ez;exact AL (Y8 _ _ (kI Ez))
     refine Fy Ez HZ ?_;rintro ⟨_,_,_,_⟩ Ez;exact AL (Y8 _ _ (kI Ez))
   refine Fy XQ WD λ _ XQ=>?_;obtain ⟨_,XQ⟩ | ⟨_,XQ⟩:=cK XQ
   . exact AL (Bs8 _ _ (kI XQ))
   refine Fy XQ Af7 ?_;rintro ⟨_,_,_,_,_⟩ XQ;exact AL (Bs8 _ _ (kI XQ))
 refine Fy EJ Gl λ _ EJ=>?_;refine Fy EJ Af5 ?_;rintro ⟨_,_,_,_,_⟩ EJ;obtain ⟨k,Caf,EJ⟩:=bK EJ;refine H2 Caf [0,2] [] (λ q=>[(3,iD q.2.2.2.2.2)]) (λ q=>DX.h ({a with CQ:=q.2.2.2.1,CR:=q.2.2.2.2.1,closed:=Hu,Dp:=H3,C0:=IW,CO:=q.1,CS:=q.2.1,C7:=false,CP:=q.2.2.1,DD:=F4})) ?_;rintro ⟨m,Bxb,n,o,p,s⟩ _ Pl Bm1;rw[L9.eq_1] at Pl;obtain ⟨_,Pl⟩ | ⟨_,Pl⟩:=cK Pl
 . cases kR Pl;obtain ⟨l,Cae,EJ⟩:=bK EJ;refine H2 Cae [0,2] [] (λ q=>[(4,iD q.2.2.2.2)]) (λ q=>DX.h ({a with CQ:=q.2.2.1,CR:=q.2.2.2.1,closed:=Hu,Dp:=H3,C0:=IW,CO:=q.1,CS:=Bxb,C7:=false,CP:=q.2.1,DD:=F4})) ?_;rintro ⟨t,u,v,w,x⟩ _ DM Qq;rw[Ma.eq_1] at DM;obtain ⟨_,DM⟩ | ⟨_,DM⟩:=cK DM
   . cases kR DM;refine Fy EJ PU λ _ EJ=>?_;obtain ⟨_,EJ⟩ | ⟨_,EJ⟩:=cK EJ
     . refine Fy EJ Zn ?_;rintro ⟨_,_,_,_,_,_,_,_⟩ EJ;obtain ⟨Cbe,EJ⟩:=gK EJ;refine He Cbe ?_;exact AL (Aof _ _ (kI EJ))
     cases kR EJ;exact zO b
   obtain ⟨_,DM,_⟩:=jK Db DM;obtain ⟨_,DM⟩ | ⟨_,DM⟩:=cK DM
   . exact AL (Qq _ _ (kI DM))
   obtain ⟨_,DM⟩ | ⟨_,DM⟩:=cK DM
   . obtain ⟨_,DM⟩ | ⟨_,DM⟩:=cK DM
     . obtain ⟨_,DM⟩ | ⟨_,DM⟩:=cK DM
       . exact AL (Qq _ _ (kI DM))
       refine Fy DM Hc λ _ DM=>?_;obtain ⟨_,DM⟩ | ⟨_,DM⟩:=cK DM
       . exact AL (Qq _ _ (kI DM))
       refine Fy DM JF λ _ DM=>?_;refine Fy DM Gb ?_;rintro ⟨_,_,_,_⟩ DM;exact AL (Qq _ _ (kI DM))
     refine Fy DM Hc λ _ DM=>?_;obtain ⟨_,DM⟩ | ⟨_,DM⟩:=cK DM
     . exact AL (Qq _ _ (kI DM))
     refine Fy DM JF λ _ DM=>?_;refine Fy DM Gb ?_;rintro ⟨_,_,_,_⟩ DM;exact AL (Qq _ _ (kI DM))
   obtain ⟨_,DM,_⟩:=jK DZ DM;obtain ⟨_,DM⟩ | ⟨_,DM⟩:=cK DM
   . refine Fy DM Hc λ _ DM=>?_;obtain ⟨_,DM⟩ | ⟨_,DM⟩:=cK DM
     . obtain ⟨_,DM⟩ | ⟨_,DM⟩:=cK DM
       . obtain ⟨_,DM⟩ | ⟨_,DM⟩:=cK DM
         . exact AL (Qq _ _ (kI DM))
         refine Fy DM Hc λ _ DM=>?_;obtain ⟨_,DM⟩ | ⟨_,DM⟩:=cK DM
         . exact AL (Qq _ _ (kI DM))
         refine Fy DM JF λ _ DM=>?_;refine Fy DM Gb ?_;rintro ⟨_,_,_,_⟩ DM;exact AL (Qq _ _ (kI DM))
       refine Fy DM Hc λ _ DM=>?_;obtain ⟨_,DM⟩ | ⟨_,DM⟩:=cK DM
       . exact AL (Qq _ _ (kI DM))
       refine Fy DM JF λ _ DM=>?_;refine Fy DM Gb ?_;rintro ⟨_,_,_,_⟩ DM;exact AL (Qq _ _ (kI DM))
     refine Fy DM HZ ?_;rintro ⟨_,_,_,_⟩ DM;exact AL (Qq _ _ (kI DM))
   refine Fy DM HZ ?_;rintro ⟨_,_,_,_⟩ DM;exact AL (Qq _ _ (kI DM))
 refine Fy Pl WD λ _ Pl=>?_;obtain ⟨_,Pl⟩ | ⟨_,Pl⟩:=cK Pl
 . exact AL (Bm1 _ _ (kI Pl))
 refine Fy Pl Af7 ?_;rintro ⟨_,_,_,_,_⟩ Pl;exact AL (Bm1 _ _ (kI Pl))
def Q3(e:Lo):Ag×Int->Option ((Ag×Int)⊕((Ag×Int)))
 | (b,a)=>cond (a<(e.CO.length:Int)) ((CU e.CO a).bind λ Jt=>cond (Jt.De.length<10000000) (cond (b.length+1<10000000) (some (.inl ((b++[Jt]),(i64.wrap (a+1))))) none) none) (some (.inr (b,a)))
def IM(a:Lo):Option (Lo):=
 (H9 (⟨a.CQ,a.CR⟩:KM)).bind λ e=>(Jz (⟨a.closed,a.Dp,a.C0⟩:Me) (-1)).bind λ b=>cond (a.CS.length<10000000) ((C9 (Q3 a) ([],0)).bind (λ (Mx,O8)=>some (⟨e.CQ,e.CR,b.closed,b.Dp,b.C0,Mx,a.CS,a.C7⟩:Lo))) none
theorem Ak0{b r}(a:IM b=some r):
   Rq 76 [.agg b.c] [] [(0,.arr 3 1 (CT r.CQ)),(1,.arr 23 1 (DA r.CR)),(2,.arr 4 1 (Dn r.closed)),(3,.arr 3 1 (CT r.Dp)),(4,.arr 3 1 (CT r.C0)),(5,.arr 171 13 (Ed r.CO)),(6,.arr 229 5 (DF r.CS))] (.agg [rD 0 r.CQ,rD 1 r.CR,rD 2 r.closed,rD 3 r.Dp,rD 4 r.C0,rD 5 r.CO,rD 6 r.CS,bD r.C7]):=by
 refine EA func76 Bft ?_;unfold IM at a;refine Ey [1] [0,10,30,40,60,70,90,100,121,22,52,82,110,133] ?_;refine FO a Nv λ f a=>?_;refine FO a K7 λ e a=>?_;obtain ⟨l,a⟩:=gE a;refine He l ?_;obtain ⟨m,k,a⟩:=bE a;refine A ?_;refine EX k (λ q=>⟨[(1,.ptr 1 0),(2,.ptr 2 0),(3,.ptr 3 0),(4,iD q.2)],[(1,.box b.c),(2,.box [.cl [],.cl [],.cl [],.cl [],.cl [],.cl [],.cl [],bD false]),(3,.box [rD 10008 f.CQ,rD 20008 f.CR,rD 10011 e.closed,rD 20011 e.Dp,rD 30011 e.C0,rD 38 q.1,rD 14 b.CS,bD b.C7]),(14,.arr 229 5 (DF b.CS)),(38,.arr 171 13 (Ed q.1)),(10008,.arr 3 1 (CT f.CQ)),(10011,.arr 4 1 (Dn e.closed)),(20008,.arr 23 1 (DA f.CR)),(20011,.arr 3 1 (CT e.Dp)),(30011,.arr 3 1 (CT e.C0))],41⟩) ((Wk.EV (id:=3) (j:=5) (q:=38) (sz:=13) 171 rfl rfl rfl AV).trans WL) ?_;rintro ⟨n,o⟩ _ EM Agd;rw[Q3.eq_1] at EM;obtain ⟨_,EM⟩ | ⟨_,EM⟩:=cK EM
 . cases kR EM;exact zO a
 obtain ⟨_,EM,_⟩:=jK Db EM;obtain ⟨g,EM⟩:=gK EM;refine He g ?_;obtain ⟨i,EM⟩:=gK EM;refine He i ?_;exact AL (Agd _ _ (kI EM))
theorem K4{a r}(b:IM a=some r):
   Rq 76 [.agg a.c] [] [(0,.arr 171 13 (Ed r.CO)),(1,.arr 229 5 (DF r.CS))] (.agg [sD (CT r.CQ),sD (DA r.CR),sD (Dn r.closed),sD (CT r.Dp),sD (CT r.C0),rD 0 r.CO,rD 1 r.CS,bD r.C7]):=by
 refine C4.Bd4 (Ak0 b) ?_;rintro h d ⟨rfl,rfl⟩;refine ⟨[(true,rD 0 r.CQ),(true,rD 1 r.CR),(true,rD 2 r.closed),(true,rD 3 r.Dp),(true,rD 4 r.C0),(false,rD 5 r.CO),(false,rD 6 r.CS),(false,bD r.C7)],rfl,?_⟩;simp only[go_sem,Afe,HM,bor]
def Q4(e:Ldg):Ag×Int->Option ((Ag×Int)⊕((Ag×Int)))
 | (b,a)=>cond (a<(e.CO.length:Int)) ((CU e.CO a).bind λ Jb=>cond (b.length+1<10000000) (some (.inl ((b++[(⟨Jb.state,Jb.Fc,Jb.Ev,0,0,0,false,false,0,0,[],0,0⟩:KP)]),(i64.wrap (a+1))))) none) (some (.inr (b,a)))
def NK(a:Ldg):Option (Ldg):=
 (Jz (⟨a.closed,a.Dp,a.C0⟩:Me) (-1)).bind λ b=>cond (a.CS.length<10000000) ((C9 (Q4 a) ([],0)).bind (λ (M7,v20)=>some (⟨b.closed,b.Dp,b.C0,a.CS,M7⟩:Ldg))) none
theorem Ak2{e r}(a:NK e=some r):
   Rq 164 [.agg e.c] [] [(0,.arr 4 1 (Dn r.closed)),(1,.arr 3 1 (CT r.Dp)),(2,.arr 3 1 (CT r.C0)),(3,.arr 229 5 (DF r.CS)),(4,.arr 171 13 (Ed r.CO))] (.agg [rD 0 r.closed,rD 1 r.Dp,rD 2 r.C0,rD 3 r.CS,rD 4 r.CO]):=by
 refine EA func164 Azc ?_;unfold NK at a;refine Ey [1] [0,10,30,40,71,22,52,60,83] ?_;refine FO a K7 λ b a=>?_;obtain ⟨k,a⟩:=gE a;refine He k ?_;obtain ⟨l,g,a⟩:=bE a;refine A ?_;refine EX g (λ q=>⟨[(1,.ptr 1 0),(2,.ptr 2 0),(3,.ptr 3 0),(4,iD q.2)],[(1,.box e.c),(2,.box [.cl [],.cl [],.cl [],.cl [],.cl []]),(3,.box [rD 10008 b.closed,rD 20008 b.Dp,rD 30008 b.C0,rD 11 e.CS,rD 35 q.1]),(11,.arr 229 5 (DF e.CS)),(35,.arr 171 13 (Ed q.1)),(10008,.arr 4 1 (Dn b.closed)),(20008,.arr 3 1 (CT b.Dp)),(30008,.arr 3 1 (CT b.C0))],38⟩) ((Wk.EV (id:=3) (j:=4) (q:=35) (sz:=13) 171 rfl rfl rfl AV).trans WL) ?_;rintro ⟨m,n⟩ _ FD i;rw[Q4.eq_1] at FD;obtain ⟨_,FD⟩ | ⟨_,FD⟩:=cK FD
 . cases kR FD;exact zO a
 obtain ⟨_,FD,_⟩:=jK Db FD;obtain ⟨f,FD⟩:=gK FD;refine He f ?_;exact AL (i _ _ (kI FD))
theorem Ak1{a r}(b:NK a=some r):
   Rq 164 [.agg a.c] [] [(0,.arr 3 1 (CT r.C0)),(1,.arr 229 5 (DF r.CS)),(2,.arr 171 13 (Ed r.CO))] (.agg [sD (Dn r.closed),sD (CT r.Dp),rD 0 r.C0,rD 1 r.CS,rD 2 r.CO]):=by
 refine C4.Bd4 (Ak2 b) ?_;rintro h d ⟨rfl,rfl⟩;refine ⟨[(true,rD 0 r.closed),(true,rD 1 r.Dp),(false,rD 2 r.C0),(false,rD 3 r.CS),(false,rD 4 r.CO)],rfl,?_⟩;simp only[go_sem,Afe,HM,bor]
def Pc(a:Lo):Ag×Int->Option ((Ag×Int)⊕((Ag×Int)))
 | (H3,IW)=>cond (IW<(a.CO.length:Int)) ((CU a.CO IW).bind λ RW=>cond (H3.length+1<10000000) (some (.inl ((H3++[(⟨RW.state,RW.Fc,RW.Ev,0,0,0,false,false,0,0,[],0,0⟩:KP)]),(i64.wrap (IW+1))))) none) (some (.inr (H3,IW)))
def ZL:Lp (Ao×Int) (Ao×Int)
 | (b,a)=>cond (a<(b.length:Int)) ((CU b a).bind λ OS=>some (.inl ((b.set a.toNat {OS with over:=0}),(i64.wrap (a+1))))) (some (.inr (b,a)))
def NV(a:Lo):Option (Ldg):=
 (Jz (⟨a.closed,a.Dp,a.C0⟩:Me) (-1)).bind λ b=>cond (a.CS.length<10000000) ((C9 ZL (a.CS,0)).bind (λ (QX,v36)=>(C9 (Pc a) ([],0)).bind (λ (v52,v53)=>some (⟨b.closed,b.Dp,b.C0,QX,v52⟩:Ldg)))) none
theorem Ajx{e r}(a:NV e=some r):
   Rq 120 [.agg e.c] [] [] (.agg r.c):=by
 refine EA func120 Bac ?_;unfold NV at a;refine Ey [1] [0,10,30,40,71,22,52,60,83] ?_;refine FO a K7 λ b a=>?_;obtain ⟨m,a⟩:=gE a;refine He m ?_;obtain ⟨n,g,a⟩:=bE a;refine H2 g [1,2,3] [1,2,10009,20009,30009] (λ q=>[(4,iD q.2)]) (λ q=>[(3,.box [rD 10009 b.closed,rD 20009 b.Dp,rD 30009 b.C0,rD 12 q.1,.cl []]),(12,.arr 229 5 (DF q.1))]) ?_;rintro ⟨l,p⟩ _ FD k;rw[ZL.eq_1] at FD;obtain ⟨_,FD⟩ | ⟨_,FD⟩:=cK FD
 . cases kR FD;obtain ⟨o,i,a⟩:=bE a;refine A ?_;refine EX i (λ q=>⟨[(1,.ptr 1 0),(2,.ptr 2 0),(3,.ptr 3 0),(5,iD q.2)],[(1,.box e.c),(2,.box [.cl [],.cl [],.cl [],.cl [],.cl []]),(3,.box [rD 10009 b.closed,rD 20009 b.Dp,rD 30009 b.C0,rD 12 l,rD 48 q.1]),(12,.arr 229 5 (DF l)),(48,.arr 171 13 (Ed q.1)),(10009,.arr 4 1 (Dn b.closed)),(20009,.arr 3 1 (CT b.Dp)),(30009,.arr 3 1 (CT b.C0))],51⟩) ((Wk.EV (id:=3) (j:=4) (q:=48) (sz:=13) 171 rfl rfl rfl AV).trans WL) ?_;rintro ⟨H3,IW⟩ _ Ng Bok;rw[Pc.eq_1] at Ng;obtain ⟨_,Ng⟩ | ⟨_,Ng⟩:=cK Ng
   . cases kR Ng;exact zP a
   obtain ⟨_,Ng,_⟩:=jK Db Ng;obtain ⟨f,Ng⟩:=gK Ng;refine He f ?_;exact AL (Bok _ _ (kI Ng))
 obtain ⟨_,FD,_⟩:=jK EG FD;exact AL (k _ _ (kI FD))
def LL(f:Nt)(e:Lo)(a:Int):Option (Ni×Int):=
 (u_r03_Valid_v f).bind λ g=>cond g (cond (a<0) (some ((⟨[],[],[],[],[]⟩:Ni),19)) (cond ((e.CO.length:Int)<=a) (some ((⟨[],[],[],[],[]⟩:Ni),19)) ((CU e.CO a).bind λ b=>cond (b.state=1) (cond (b.Ff=(-1)) (some ((⟨[],[],[],[],[]⟩:Ni),0)) (cond b.LF (some ((⟨[],[],[],[],[]⟩:Ni),0)) ((Ky ({b with LF:=false}:KP) a).bind λ Lq=>some ((⟨[Lq],[],[],[],[]⟩:Ni),0)))) (some ((⟨[],[],[],[],[]⟩:Ni),0))))) (some ((⟨[],[],[],[],[]⟩:Ni),20))
theorem W7{b e f r}(a:LL b e f=some r):
   Rq 85 [.agg b.c,.agg e.c,iD f] [] [] (.Em [.agg r.1.c,iD r.2]):=by
 refine EA func85 Bfl ?_;unfold LL at a;refine Ec a F8 λ _ a=>?_;refine cP a λ _ a=>?_;obtain ⟨_,a⟩ | ⟨_,a⟩:=cE a
 . obtain ⟨_,a⟩ | ⟨_,a⟩:=cE a
   . obtain ⟨_,a,_⟩:=jE Db a;refine cP a λ _ a=>?_;obtain ⟨_,a⟩ | ⟨_,a⟩:=cE a
     . obtain ⟨_,a⟩ | ⟨_,a⟩:=cE a
       . refine Ec a Pb λ _ a=>?_;exact zP a
       exact zP a
     exact zP a
   exact zP a
 exact zP a
def LM(e:Nt)(f:Lo)(b:U7):Option (Lo×Ni×Int):=
 (u_r03_Valid_v e).bind λ g=>cond g ((IM f).bind λ a=>(IJ b).bind λ i=>cond i (cond (b.kind=1) (some (a,(⟨[],[],[],[],[]⟩:Ni),0)) (cond ((f.CO.length:Int)<=b.CZ) (some (a,(⟨[],[],[],[],[]⟩:Ni),0)) ((CU f.CO b.CZ).bind λ G3=>cond (G3.state=1) ((CU a.CO b.CZ).bind λ Jt=>cond (b.kind=3) (cond (b.flag=0) (cond (b.seq=Jt.seq) (some (({a with CO:=(a.CO.set b.CZ.toNat {Jt with LF:=true})}:Lo),(⟨[],[],[],[],[]⟩:Ni),0)) (some (a,(⟨[],[],[],[],[]⟩:Ni),0))) (some (a,(⟨[],[],[],[],[]⟩:Ni),0))) (cond (Jt.seq<b.seq) (some (a,(⟨[],[],[],[],[]⟩:Ni),0)) (cond (b.seq=Jt.seq) ((QS {e with CQ:=a.CQ,CR:=a.CR,closed:=a.closed,Dp:=a.Dp,C0:=a.C0,CO:=a.CO,CS:=a.CS,C7:=a.C7,DV:=[({b with kind:=3,cell:=0}:U7)],CP:=[],FG:=[],DO:=[],DD:=[]} b.CZ).bind λ (P1,RW,GA)=>cond (b.flag=2) ((QP {e with CQ:=P1,CR:=RW,closed:=a.closed,Dp:=a.Dp,C0:=a.C0,CO:=GA,CS:=a.CS,C7:=a.C7,DV:=[({b with kind:=3,cell:=0}:U7)],CP:=[],FG:=[],DO:=[],DD:=[]} b.CZ).bind λ (OV,RV,Mv,OS,LG)=>some ((⟨OV,RV,a.closed,a.Dp,a.C0,Mv,OS,a.C7⟩:Lo),(⟨[({b with kind:=3,cell:=0}:U7)],LG,[],[],[]⟩:Ni),0)) (some (({a with CQ:=P1,CR:=RW,CO:=GA}:Lo),(⟨[({b with kind:=3,cell:=0}:U7)],[],[],[],[]⟩:Ni),0))) (some (a,(⟨[({b with kind:=3,cell:=0}:U7)],[],[],[],[]⟩:Ni),0))))) (some (a,(⟨[],[],[],[],[]⟩:Ni),0))))) (some (a,(⟨[],[],[],[],[]⟩:Ni),0))) (some ((⟨[],[],[],[],[],[],[],false⟩:Lo),(⟨[],[],[],[],[]⟩:Ni),20))
theorem ZM{e f g r}(a:LM e f g=some r):
   Rq 82 [.agg e.c,.agg f.c,.agg g.c] [] [] (.Em [.agg r.1.c,.agg r.2.1.c,iD r.2.2]):=by
 refine EA func82 Bfo ?_;unfold LM at a;refine Ec a F8 λ _ a=>?_;refine cP a λ _ a=>?_;refine Dd [0,0,2,0,1,0] ?_;refine FO a K4 λ _ a=>?_;refine Ec a R2 λ _ a=>?_;obtain ⟨_,a⟩ | ⟨_,a⟩:=cE a
 . refine C5 [20] [0,0,0,0,0,0,0,0,2,2,0] ?_;exact zP a
 obtain ⟨_,a⟩ | ⟨_,a⟩:=cE a
 . obtain ⟨_,a⟩ | ⟨_,a⟩:=cE a
   . obtain ⟨_,a,_⟩:=jE Db a;obtain ⟨_,a⟩ | ⟨_,a⟩:=cE a
     . refine C5 [20] [0,0,0,0,0,0,0,0,2,2,0] ?_;exact zP a
     refine Dd [0,0,0,0,0,0,0,0,0] ?_;obtain ⟨_,a,_⟩:=jE Db a;obtain ⟨_,a⟩ | ⟨_,a⟩:=cE a
     . refine Dd [0,0,0,0,0,0,0] ?_;obtain ⟨_,a⟩ | ⟨_,a⟩:=cE a
       . refine C5 [5,20] [0,0,0,0,0,0,0,0,0,0,0,0,0,1,2,0,0,0,3] ?_;refine A ?_;refine ⟨by (try simp only[Br,Bz,Bw] at*);(repeat' refine And.intro ?_ ?_)<;>first | exact Lr _ _ rfl | exact QM _ | omega | (simp[P0];done),?_⟩;refine Dd [0,0,0,0,0,0,0] ?_;obtain ⟨_,a⟩ | ⟨_,a⟩:=cE a
         . refine C5 [20] [0,0,0,0,0,0,0,0,2,2,0] ?_;exact zP a
         obtain ⟨⟨_,_,_⟩,b,a⟩:=bE a;refine A ?_;refine Nq ((Wk.EV (id:=20) (j:=17) (q:=520017) (sz:=4) 242 rfl rfl rfl AV).trans ((Wk.EV (id:=20) (j:=18) (q:=520018) (sz:=2) 205 rfl rfl rfl AV).trans ((Wk.EV (id:=20) (j:=19) (q:=520019) (sz:=1) 3 rfl rfl rfl AV).trans (Wk.EV (id:=20) (j:=20) (q:=520020) (sz:=1) 3 rfl rfl rfl AV)))) ?_;(try simp only[go_sem, *,BQ,BT]);refine YA (Aqi b) ?_;obtain ⟨_,a⟩ | ⟨_,a⟩:=cE a
         . refine C5 [20] [0,0,0,0,0,0,0,0,2,2,0] ?_;exact zP a
         refine Ec a Aq5 ?_;rintro ⟨_,_,_,_,_⟩ a;refine C5 [20] [0,0,0,0,0,0,0,0,2,2,0] ?_;exact zP a
       refine C5 [20] [0,0,0,0,0,0,0,0,2,2,0] ?_;exact zP a
     refine Dd [0,0,0,0,0,0,0,0,0,0,0,0] ?_;obtain ⟨_,a⟩ | ⟨_,a⟩:=cE a
     . refine C5 [20] [0,0,0,0,0,0,0,0,2,2,0] ?_;exact zP a
     obtain ⟨_,a⟩ | ⟨_,a⟩:=cE a
     . refine C5 [20] [0,0,0,0,0,0,0,0,2,2,0] ?_;exact zP a
     refine C5 [20] [0,0,0,0,0,0,0,0,2,2,0] ?_;exact zP a
   refine C5 [20] [0,0,0,0,0,0,0,0,2,2,0] ?_;exact zP a
 refine C5 [20] [0,0,0,0,0,0,0,0,2,2,0] ?_;exact zP a
def NX(e:Nt)(f:Lo)(b:Int):Option (Lo×Ni×Int):=
 (u_r03_Valid_v e).bind λ g=>cond g (cond (b<0) (some ((⟨[],[],[],[],[],[],[],false⟩:Lo),(⟨[],[],[],[],[]⟩:Ni),19)) (cond ((f.CO.length:Int)<=b) (some ((⟨[],[],[],[],[],[],[],false⟩:Lo),(⟨[],[],[],[],[]⟩:Ni),19)) ((IM f).bind λ a=>(CU f.CO b).bind λ i=>cond (i.state=1) ((Pr {e with CQ:=a.CQ,CR:=a.CR,closed:=a.closed,Dp:=a.Dp,C0:=a.C0,CO:=a.CO,CS:=a.CS,C7:=a.C7,DV:=[],CP:=[],FG:=[],DO:=[],DD:=[]} [b]).bind λ (Lq,Jb,I8,Jt,Hy,RY,OT,RX)=>(HG {e with CQ:=Lq,CR:=Jb,closed:=I8,Dp:=Jt,C0:=Hy,CO:=RY,CS:=OT,C7:=a.C7,DV:=[],CP:=RX,FG:=[],DO:=[],DD:=[]}).bind λ (Fj,P1,RW,GA,OW,Nr,OV,RV,Mv,OS)=>some ((⟨Fj,P1,RW,GA,OW,Nr,OV,RV⟩:Lo),(⟨[],Mv,[],[],OS⟩:Ni),0)) (some (a,(⟨[],[],[],[],[]⟩:Ni),0))))) (some ((⟨[],[],[],[],[],[],[],false⟩:Lo),(⟨[],[],[],[],[]⟩:Ni),20))
theorem Ajy{e f g r}(a:NX e f g=some r):
   Rq 90 [.agg e.c,.agg f.c,iD g] [] [] (.Em [.agg r.1.c,.agg r.2.1.c,iD r.2.2]):=by
 refine EA func90 Bfh ?_;unfold NX at a;refine Ec a F8 λ _ a=>?_;refine cP a λ _ a=>?_;obtain ⟨_,a⟩ | ⟨_,a⟩:=cE a
 . obtain ⟨_,a⟩ | ⟨_,a⟩:=cE a
   . refine Dd [0,0,2,0,1,0] ?_;refine FO a K4 λ _ a=>?_;obtain ⟨_,a,_⟩:=jE Db a;obtain ⟨_,a⟩ | ⟨_,a⟩:=cE a
     . refine C5 [30] [0,0,0,0,0,0,0,0,2,2,0] ?_;exact zP a
     obtain ⟨⟨_,_,_,_,_,_,_,_⟩,b,a⟩:=bE a;refine A ?_;refine Nq ((Wk.EV (id:=30) (j:=16) (q:=530016) (sz:=5) 178 rfl rfl rfl AV).trans ((Wk.EV (id:=30) (j:=17) (q:=530017) (sz:=4) 242 rfl rfl rfl AV).trans ((Wk.EV (id:=30) (j:=18) (q:=530018) (sz:=2) 205 rfl rfl rfl AV).trans ((Wk.EV (id:=30) (j:=19) (q:=530019) (sz:=1) 3 rfl rfl rfl AV).trans (Wk.EV (id:=30) (j:=20) (q:=530020) (sz:=1) 3 rfl rfl rfl AV))))) ?_;(try simp only[go_sem, *,BQ,BT]);refine YA (Zn b) ?_;refine Ec a Jp ?_;rintro ⟨_,_,_,_,_,_,_,_,_,_⟩ a;refine C5 [30] [0,0,0,0,0,0,0,0,2,2,0] ?_;exact zP a
   exact zP a
 exact zP a
def JM(a:DX)(b:KP):Option (Int×Bool):=
 cond (b.state=1) (cond (b.Dx=0) (cond (b.Ff=(-1)) ((K3 (⟨a.blocks,a.next,a.CV,a.C8,a.cq,a.ca,a.cd,a.cp⟩:Nt) b.cell).bind λ e=>cond (0<=e) ((KB (⟨a.blocks,a.next,a.CV,a.C8,a.cq,a.ca,a.cd,a.cp⟩:Nt) e).bind λ f=>some (e,decide (b.cell=f))) (some (e,false))) (some ((-1),false))) (some ((-1),false))) (some ((-1),false))
theorem Sf{b e r}(a:JM b e=some r):
   Rq 143 [.ptr 1000000 0,.agg e.c] (DX.h2 b) (DX.h2 b) (.Em [iD r.1,bD r.2]):=by
 refine EA func143 Aie ?_;unfold JM at a;refine cO a λ _ a=>?_;refine cO a λ _ a=>?_;refine cO a λ _ a=>?_;refine Dd [0,0,0,0,0,0,2,0] ?_;refine FO a NU λ _ a=>?_;refine Dd [0,0,0,0,0,0,0,0,0,0,0,2,0,0,0,0] ?_;refine cO a λ _ a=>?_;refine FO a Ph λ _ a=>?_;exact zO a
def Kv(a:DX)(i:Int):Int×Int×Bool×Int->Option ((Int×Int×Bool×Int)⊕((Int×Int×Bool×Int)))
 | (e,f,g,b)=>cond (b<(a.CO.length:Int)) ((CU a.CO b).bind λ I8=>(JM a I8).bind λ (OT,RX)=>cond RX (cond (OT=I8.Ev) (cond I8.Fc (some (.inl (e,f,g,(i64.wrap (b+1))))) (cond (i<0) (some (.inl (e,f,true,(i64.wrap (b+1))))) ((NY (⟨a.blocks,a.next,a.CV,a.C8,a.cq,a.ca,a.cd,a.cp⟩:Nt) (⟨a.closed,a.Dp,a.C0⟩:Me) I8.cell i).bind λ (OW,Nr)=>cond Nr (cond (e<0) (some (.inl (b,(OW.length:Int),true,(i64.wrap (b+1))))) (cond ((OW.length:Int)<f) (some (.inl (b,(OW.length:Int),true,(i64.wrap (b+1))))) (some (.inl (e,f,true,(i64.wrap (b+1))))))) (some (.inl (e,f,true,(i64.wrap (b+1)))))))) (some (.inl (e,f,g,(i64.wrap (b+1)))))) (some (.inl (e,f,g,(i64.wrap (b+1)))))) (some (.inr (e,f,g,b)))
def G4(a:DX)(b:Int):Option (Int×Bool):=
 (C9 (Kv a b) ((-1),0,false,0)).bind (λ (v32,Vd,Mw,QX)=>some (v32,Mw))
theorem JU{a f r}(b:G4 a f=some r):
   Rq 145 [.ptr 1000000 0,iD f] (DX.h2 a) (DX.h2 a) (.Em [iD r.1,bD r.2]):=by
 refine EA func145 Azq ?_;unfold G4 at b;obtain ⟨g,e,b⟩:=bE b;refine H2 e [0,1] [] (λ q=>[(6,iD q.1),(7,iD q.2.1),(8,bD q.2.2.1),(9,iD q.2.2.2)]) (λ _=>DX.h2 a) ?_;rintro ⟨i,j,k,l⟩ _ EZ MP;rw[Kv.eq_1] at EZ;obtain ⟨_,EZ⟩ | ⟨_,EZ⟩:=cK EZ
 . cases kR EZ;exact zO b
 obtain ⟨_,EZ,_⟩:=jK Db EZ;refine Fy EZ Sf ?_;rintro ⟨_,_⟩ EZ;obtain ⟨_,EZ⟩ | ⟨_,EZ⟩:=cK EZ
 . exact AL (MP _ _ (kI EZ))
 obtain ⟨_,EZ⟩ | ⟨_,EZ⟩:=cK EZ
 . exact AL (MP _ _ (kI EZ))
 obtain ⟨_,EZ⟩ | ⟨_,EZ⟩:=cK EZ
 . obtain ⟨_,EZ⟩ | ⟨_,EZ⟩:=cK EZ
   . refine Dd [0,0,0,0,0,0,0,0,0,0,0,0,2,0,0,0,0,0] ?_;refine Sc EZ Abz ?_;rintro ⟨_,_⟩ EZ;obtain ⟨_,EZ⟩ | ⟨_,EZ⟩:=cK EZ
     . exact AL (MP _ _ (kI EZ))
     obtain ⟨_,EZ⟩ | ⟨_,EZ⟩:=cK EZ
     . obtain ⟨_,EZ⟩ | ⟨_,EZ⟩:=cK EZ
       . exact AL (MP _ _ (kI EZ))
       exact AL (MP _ _ (kI EZ))
     exact AL (MP _ _ (kI EZ))
   exact AL (MP _ _ (kI EZ))
 exact AL (MP _ _ (kI EZ))
def Af0(a:DX)(e:Ag)(b:Ao):Ad×Int->Option ((Ad×Int)⊕((Ad×Int)))
 | (Mx,O8)=>cond (O8<(b.length:Int)) ((SV (⟨a.blocks,a.next,a.CV,a.C8,a.cq,a.ca,a.cd,a.cp⟩:Nt) e b O8).bind λ Ud=>cond (Mx.length+1<10000000) (some (.inl ((Mx++[Ud]),(i64.wrap (O8+1))))) none) (some (.inr (Mx,O8)))
def Aez(i:DX):Ag×Ak×Ao×Aa×Ab->Option ((Ag×Ak×Ao×Aa×Ab)⊕((Aa×Ab×Ag×Ao×Ak)))
 | (b,j,e,g,a)=>(G4 {i with CQ:=g,CR:=a,CO:=b,CS:=e,CP:=j} (-1)).bind λ (Jt,Hy)=>cond Hy ((C9 (Af0 i b e) ([],0)).bind (λ (v67,v68)=>(P9 e v67 i.ca).bind λ U9=>cond (U9<0) (some (.inr ((g,a,b,e,j):Aa×Ab×Ag×Ao×Ak))) ((CU e U9).bind λ l=>(G4 {i with CQ:=g,CR:=a,CO:=b,CS:=e,CP:=j} l.pick).bind λ (x76,x77)=>cond (x76<0) (some (.inr ((g,a,b,e,j):Aa×Ab×Ag×Ao×Ak))) ((NZ e U9 x76).bind λ f=>(HE {i with CQ:=g,CR:=a,CO:=b,CS:=f,CP:=j} 2 U9 x76).bind λ ZH=>(CU b x76).bind λ k=>(CU (b.set x76.toNat {k with DY:=U9}) x76).bind λ m=>(CU f U9).bind λ n=>(GM {i with CQ:=g,CR:=a,CO:=(b.set x76.toNat {k with DY:=U9}).set x76.toNat {m with Dx:=1},CS:=f,CP:=ZH} x76 n.pick).bind λ (Sv,x98,x99,Bcl)=>some (.inl (x99,Bcl,f,Sv,x98)))))) (some (.inr ((g,a,b,e,j):Aa×Ab×Ag×Ao×Ak)))
def QO(a:DX):Option (Aa×Ab×Ag×Ao×Ak):=
 (C9 (Aez a) (a.CO,a.CP,a.CS,a.CQ,a.CR)).bind (λ Byt=>some Byt)
theorem AY{p:Prop}(h:p:=by simp[ZE,ZEu,DX.h,GI.h,DX.h2,GI.h2]):p:=h
theorem Aq2{b r}(a:QO b=some r):
   Rq 94 [.ptr 1000000 0] (DX.h2 b) (DX.h2 ({b with CQ:=r.1,CR:=r.2.1,CO:=r.2.2.1,CS:=r.2.2.2.1,CP:=r.2.2.2.2})) (.Em []):=by
 refine EA func94 Bfd ?_;unfold QO at a;obtain ⟨o,i,a⟩:=bE a;refine H2 i [0] [] (λ _=>[]) (λ q=>DX.h2 ({b with CQ:=q.2.2.2.1,CR:=q.2.2.2.2,CO:=q.1,CS:=q.2.2.1,CP:=q.2.1})) ?_;rintro ⟨s,u,v,w,n⟩ _ Dr L3;rw[Aez.eq_1] at Dr;refine Fy Dr JU ?_;rintro ⟨_,_⟩ Dr;obtain ⟨_,Dr⟩ | ⟨_,Dr⟩:=cK Dr
 . cases kR Dr;exact zO a
 obtain ⟨p,k,Dr⟩:=bK Dr;refine A ?_;refine EX k (λ q=>⟨[(0,.ptr 1000000 0),(4,rD 44 q.1),(5,iD q.2)],(DX.h2 ({b with CQ:=w,CR:=n,CO:=s,CS:=v,CP:=u})++[(44,.arr 4 1 (Dn q.1))]),121⟩) ((Wk.nil (t:=4) (q:=44) (sz:=1) 4 rfl rfl AV).trans WL) ?_;rintro ⟨Mx,O8⟩ _ HD At1;rw[Af0.eq_1] at HD;obtain ⟨_,HD⟩ | ⟨_,HD⟩:=cK HD
 . cases kR HD;(try dsimp only at Dr);refine Dd [0,0,0,0,0,0,0,0,0,0,0,0,2,0] ?_;obtain ⟨_,l,Dr⟩:=bK Dr;refine A ?_;refine GhB (Amy l) ?_;obtain ⟨_,Dr⟩ | ⟨_,Dr⟩:=cK Dr
   . obtain ⟨_,Dr,_⟩:=jK EG Dr;refine Fy Dr JU ?_;rintro ⟨_,_⟩ Dr;obtain ⟨_,Dr⟩ | ⟨_,Dr⟩:=cK Dr
     . refine Fy Dr Ag1 λ KO Dr=>?_;refine Fy Dr Gl λ _ Dr=>?_;refine Dd [0,0,0,0,0,0,0,0,0,0,0,0,0,0,0,4,4,4,4] ?_;obtain ⟨_,Dr,_⟩:=jK Db Dr;obtain ⟨_,Dr,_,g,_⟩:=jK Db Dr;have _:=sl g;obtain ⟨_,Dr,_⟩:=jK EG Dr;refine Fy Dr Gb ?_;rintro ⟨_,_,_,_⟩ Dr;refine A ?_;exact L3 _ _ (kI Dr) ((Wk.EC (id:=1000000) (j:=14) (q:=10084) (sz:=5) (e:=229) (es:=DF KO) rfl AY rfl).trans WL)
     cases kR Dr;exact zO a
   cases kR Dr;exact zO a
 refine C5 [1000000] [0,0,0,0,0,0,0,0,0,0,0,0,0,0,0,0,2,1,2,0] ?_;obtain ⟨_,m,HD⟩:=bK HD;refine A ?_;refine GhB (Art m) ?_;obtain ⟨f,HD⟩:=gK HD;refine He f ?_;exact AL (At1 _ _ (kI HD))
def Xa(f:Aa)(g:Ab):Ag×Int->Option ((Ag×Int)⊕((Ag×Int)))
 | (b,a)=>cond (a<(b.length:Int)) ((K8 (⟨f,g⟩:KM) a).bind λ i=>cond (0<=i) ((CU b a).bind λ e=>some (.inl ((b.set a.toNat {e with wait:=(if 16<(i64.wrap (e.wait+1)) then 16 else (i64.wrap (e.wait+1)))}),(i64.wrap (a+1))))) (some (.inl (b,(i64.wrap (a+1)))))) (some (.inr (b,a)))
def W9(b:Nt)(e:Lo)(f:Ad)(g:Aa)(i:Aa)(Jt:Aa):Ag×Aw×Ak×AA×Ao×Aa×Ab->Option ((Ag×Aw×Ak×AA×Ao×Aa×Ab)⊕((Ag×Aw×Ak×AA×Ao×Aa×Ab)))
 | (j,a,k,Vd,Mw,QX,l)=>(QO {b with CQ:=QX,CR:=l,closed:=f,Dp:=g,C0:=i,CO:=j,CS:=Mw,C7:=e.C7,DV:=a,CP:=k,FG:=Vd,DO:=Jt,DD:=[]}).bind λ (x42,x43,x44,Mu,NG)=>(OJ {b with CQ:=x42,CR:=x43,closed:=f,Dp:=g,C0:=i,CO:=x44,CS:=Mu,C7:=e.C7,DV:=a,CP:=NG,FG:=Vd,DO:=Jt,DD:=[]}).bind λ (x48,Ue,NF,UP)=>(OG {b with CQ:=x48,CR:=Ue,closed:=f,Dp:=g,C0:=i,CO:=NF,CS:=Mu,C7:=e.C7,DV:=a,CP:=UP,FG:=Vd,DO:=Jt,DD:=[]}).bind λ (x53,x54,x55,VO)=>(QR {b with CQ:=x53,CR:=x54,closed:=f,Dp:=g,C0:=i,CO:=x55,CS:=Mu,C7:=e.C7,DV:=a,CP:=VO,FG:=Vd,DO:=Jt,DD:=[]}).bind λ (x58,x59,x60,x61,x62,x63)=>cond ((x63.length:Int)=(Vd.length:Int)) (some (.inr (x60,x61,x62,x63,Mu,x58,x59))) (some (.inl (x60,x61,x62,x63,Mu,x58,x59)))
def HK(b:Nt)(e:Lo):Option (Lo×Ni×Int):=
 (u_r03_Valid_v b).bind λ f=>cond f ((IM e).bind λ a=>cond e.C7 (some (a,(⟨[],[],[],[],[]⟩:Ni),0)) ((MZ {b with CQ:=a.CQ,CR:=a.CR,closed:=a.closed,Dp:=a.Dp,C0:=a.C0,CO:=a.CO,CS:=a.CS,C7:=a.C7,DV:=[],CP:=[],FG:=[],DO:=[],DD:=[]}).bind λ (x7,x8,x9,Ir)=>(MX {b with CQ:=a.CQ,CR:=a.CR,closed:=x7,Dp:=x8,C0:=x9,CO:=a.CO,CS:=a.CS,C7:=a.C7,DV:=[],CP:=Ir,FG:=[],DO:=[],DD:=[]}).bind λ (Ju,Lq,Jb,I8,Jt)=>(Jq {b with CQ:=Ju,CR:=Lq,closed:=x7,Dp:=x8,C0:=x9,CO:=Jb,CS:=a.CS,C7:=a.C7,DV:=[],CP:=I8,FG:=[],DO:=Jt,DD:=[]}).bind λ (RY,OT,RX,I4)=>(C9 (W9 b a x7 x8 x9 Jt) (RX,[],I4,[],a.CS,RY,OT)).bind (λ (v85,v86,v87,v88,v89,v90,v91)=>(C9 (Xa v90 v91) (v85,0)).bind (λ (v109,v110)=>some ((⟨v90,v91,x7,x8,x9,v109,v89,a.C7⟩:Lo),(⟨v86,v87,v88,Jt,[]⟩:Ni),0))))) (some ((⟨[],[],[],[],[],[],[],false⟩:Lo),(⟨[],[],[],[],[]⟩:Ni),20))
theorem Mn{b s r}(a:HK b s=some r):
   Rq 47 [.agg b.c,.agg s.c] [] [] (.Em [.agg r.1.c,.agg r.2.1.c,iD r.2.2]):=by
 refine EA func47 Bgf ?_;unfold HK at a;refine Ec a F8 λ _ a=>?_;refine cP a λ _ a=>?_;refine Dd [0,0,2,0,1,0] ?_;refine FO a K4 λ k a=>?_;obtain ⟨_,a⟩ | ⟨_,a⟩:=cE a
 . obtain ⟨⟨t,u,v,_⟩,f,a⟩:=bE a;refine A ?_;refine Nq ((Wk.EV (id:=19) (j:=16) (q:=519016) (sz:=5) 178 rfl rfl rfl AV).trans ((Wk.EV (id:=19) (j:=17) (q:=519017) (sz:=4) 242 rfl rfl rfl AV).trans ((Wk.EV (id:=19) (j:=18) (q:=519018) (sz:=2) 205 rfl rfl rfl AV).trans ((Wk.EV (id:=19) (j:=19) (q:=519019) (sz:=1) 3 rfl rfl rfl AV).trans (Wk.EV (id:=19) (j:=20) (q:=519020) (sz:=1) 3 rfl rfl rfl AV))))) ?_;(try simp only[go_sem, *,BQ,BT]);refine YA (Agr f) ?_;refine Ec a Agn ?_;rintro ⟨_,_,_,_,Jt⟩ a;refine Ec a Zo ?_;rintro ⟨_,_,_,_⟩ a;obtain ⟨w,g,a⟩:=bE a;refine A ?_;refine EX g (λ q=>⟨[(4,.ptr 4 0),(5,.ptr 5 0),(7,.ptr 19 0)],[(4,.box [.cl [],.cl [],.cl [],.cl [],.cl [],.cl [],.cl [],bD false]),(5,.box [.cl [],.cl [],.cl [],.cl [],.cl []]),(19,.box [sD (FM b.blocks),sD (DA b.next),sD (Gy b.CV),sD (CT b.C8),iD b.cq,iD b.ca,iD b.cd,iD b.cp,sD (CT q.2.2.2.2.2.1),sD (DA q.2.2.2.2.2.2),sD (Dn t),sD (CT u),sD (CT v),rD 10017 q.1,sD (DF q.2.2.2.2.1),bD k.C7,rD 519016 q.2.1,rD 519017 q.2.2.1,rD 519018 q.2.2.2.1,rD 519019 Jt,.ref 519020 0 0 0]),(10017,.arr 171 13 (Ed q.1)),(519016,.arr 178 5 (Eu q.2.1)),(519017,.arr 242 4 (FL q.2.2.1)),(519018,.arr 205 2 (Hz q.2.2.2.1)),(519019,.arr 3 1 (CT Jt)),(519020,.arr 3 1 (CT []))],103⟩) ((Wk.EC (id:=19) (j:=14) (q:=20017) (sz:=5) (e:=229) (es:=DF k.CS) rfl AY rfl).trans WL) ?_;rintro ⟨y,z,B,Vd,Mw,QX,E⟩ _ XR Bz3;rw[W9.eq_1] at XR;refine Fy XR Aq2 ?_;rintro ⟨_,_,_,Mu,_⟩ XR;refine Fy XR Alr ?_;rintro ⟨_,_,_,_⟩ XR;refine Fy XR All ?_;rintro ⟨_,_,_,_⟩ XR;refine Fy XR Aq9 ?_;rintro ⟨l,m,_,n,o,p⟩ XR;obtain ⟨_,XR⟩ | ⟨_,XR⟩:=cK XR
   . exact AL (Bz3 _ _ (kI XR))
   cases kR XR;obtain ⟨x,i,a⟩:=bE a;refine H2 i [4,5,7] [4,5,519016,519017,519018,519019,519020] (λ q=>[(9,iD q.2)]) (λ q=>[(19,.box [sD (FM b.blocks),sD (DA b.next),sD (Gy b.CV),sD (CT b.C8),iD b.cq,iD b.ca,iD b.cd,iD b.cp,sD (CT l),sD (DA m),sD (Dn t),sD (CT u),sD (CT v),rD 10017 q.1,sD (DF Mu),bD k.C7,rD 519016 n,rD 519017 o,rD 519018 p,rD 519019 Jt,.ref 519020 0 0 0]),(10017,.arr 171 13 (Ed q.1))]) ?_;rintro ⟨H,I⟩ _ XO Bs6;rw[Xa.eq_1] at XO;obtain ⟨_,XO⟩ | ⟨_,XO⟩:=cK XO
   . cases kR XO;(try dsimp only at a);refine C5 [19] [0,0,0,0,0,0,0,0,2,2,0] ?_;exact zP a
   refine Fy XO LR λ _ XO=>?_;obtain ⟨_,XO⟩ | ⟨_,XO⟩:=cK XO
   . exact AL (Bs6 _ _ (kI XO))
   refine Dd [0,0,0,0,0,0,0,0,0,0,0,0,0,0,0,0,0,0,0,3] ?_;obtain ⟨_,XO,_⟩:=jK Db XO;exact AL (Bs6 _ _ (kI XO))
 refine C5 [19] [0,0,0,0,0,0,0,0,2,2,0] ?_;exact zP a
def Alu(f:Aa):Aa×Ab×Int->Option ((Aa×Ab×Int)⊕((Aa×Ab×Int)))
 | (b,e,a)=>cond (a<(f.length:Int)) ((CU f a).bind λ g=>(Iv (⟨b,e⟩:KM) g).bind λ (x93,x94)=>some (.inl (x93.CQ,x93.CR,(i64.wrap (a+1))))) (some (.inr (b,e,a)))
def Avr(e:DX)(b:Aa):Ak×Int->Option ((Ak×Int)⊕((Ak×Int)))
 | (a,Aju)=>cond (Aju<(b.length:Int)) ((CU b Aju).bind λ Bws=>(HE {e with CP:=a} 20 Bws 0).bind λ Bwo=>some (.inl (Bwo,(i64.wrap (Aju+1))))) (some (.inr (a,Aju)))
def OK(a:DX)(b:Cm4)(e:OU)(i:Aa)(g:KP):Option (Aa×Ab×Ad×Aa×Aa×Ag×Ao×Bool×Ak×Aa×Aa):=
 cond (b.kind=1) ((HE a 21 e.n 0).bind λ Bwe=>some (a.CQ,a.CR,a.closed,a.Dp,a.C0,a.CO,a.CS,a.C7,Bwe,a.DO,a.DD)) (cond (b.kind=2) ((Zu a b.n 4 22).bind λ (Bmx,Bmw,Bmv,Bmu,Bwf)=>some (Bmx,Bmw,a.closed,a.Dp,a.C0,Bmv,Bmu,a.C7,Bwf,a.DO,a.DD)) (cond (b.kind=4) ((C9 (Avr a i) (a.CP,0)).bind (λ (v164,Br5)=>(HG {a with CP:=v164}).bind λ (Bwn,Bn0,Bwm,Bwl,Bwk,Bwj,Bmz,Bwi,Bwh,Bmy)=>some (Bwn,Bn0,Bwm,Bwl,Bwk,Bwj,Bmz,Bwi,Bwh,a.DO,Bmy))) (cond (b.kind=5) ((CU a.CO e.n).bind λ Bqy=>(HE a 19 e.n Bqy.Ev).bind λ Bn9=>(HG {a with CP:=Bn9}).bind λ (Bj2,Aan,Bn8,Ark,Bn7,Bch,Bn6,Afs,Amd,Afr)=>some (Bj2,Aan,Bn8,Ark,Bn7,Bch,Bn6,Afs,Amd,a.DO,Afr)) (cond (b.kind=6) ((CU a.CO b.n).bind λ Hy=>cond (g.state=2) ((LP (⟨a.CQ,a.CR⟩:KM) b.n).bind λ (x53,x54)=>(C9 (Alu x53) (a.CQ,a.CR,0)).bind (λ (v96,v97,v98)=>(CU (a.CO.set b.n.toNat {Hy with cell:=(-1)}) b.n).bind λ f=>(RE {a with CQ:=v96,CR:=v97,CO:=(a.CO.set b.n.toNat {Hy with cell:=(-1)}).set b.n.toNat {f with Ff:=(-1)}} b.n).bind λ (Bna,Aft)=>cond (a.DO.length+1<10000000) ((HG {a with CQ:=v96,CR:=v97,CO:=Bna,CP:=Aft,DO:=a.DO++[b.n]}).bind λ (Bj3,Amh,Sy,Bck,Amg,WT,Bcj,OX,Amf,Bci)=>some (Bj3,Amh,Sy,Bck,Amg,WT,Bcj,OX,Amf,(a.DO++[b.n]),Bci)) none)) (cond (g.state=0) ((G2 a b.n).bind λ (Nj,NH,YC,Sd)=>(RE {a with CQ:=Nj,CR:=NH,CO:=YC,CP:=Sd} b.n).bind λ (WS,QW)=>(HG {a with CQ:=Nj,CR:=NH,CO:=WS,CP:=QW}).bind λ (x42,x43,x44,Mu,NG,x47,x48,Ue,NF,UP)=>some (x42,x43,x44,Mu,NG,x47,x48,Ue,NF,a.DO,UP)) ((HG a).bind λ (P1,RW,GA,OW,Nr,OV,RV,Mv,OS,LG)=>some (P1,RW,GA,OW,Nr,OV,RV,Mv,OS,a.DO,LG)))) ((HG a).bind λ (x6,x7,x8,x9,Ir,G3,Ju,Lq,Jb,I8)=>some (x6,x7,x8,x9,Ir,G3,Ju,Lq,Jb,a.DO,I8))))))
theorem Yp{b i j k l r}(a:OK b i j k l=some r):
   Rq 122 [.ptr 1000000 0,.agg i.c,.agg j.c,sD (CT k),.agg l.c] (DX.h b) (DX.h ({b with CQ:=r.1,CR:=r.2.1,closed:=r.2.2.1,Dp:=r.2.2.2.1,C0:=r.2.2.2.2.1,CO:=r.2.2.2.2.2.1,CS:=r.2.2.2.2.2.2.1,C7:=r.2.2.2.2.2.2.2.1,CP:=r.2.2.2.2.2.2.2.2.1,DO:=r.2.2.2.2.2.2.2.2.2.1,DD:=r.2.2.2.2.2.2.2.2.2.2})) (.Em []):=by
 refine EA func122 Bab ?_;unfold OK at a;obtain ⟨_,a⟩ | ⟨_,a⟩:=cE a
 . obtain ⟨_,a⟩ | ⟨_,a⟩:=cE a
   . obtain ⟨_,a⟩ | ⟨_,a⟩:=cE a
     . obtain ⟨_,a⟩ | ⟨_,a⟩:=cE a
       . obtain ⟨_,a⟩ | ⟨_,a⟩:=cE a
         . refine Ec a Jp ?_;rintro ⟨_,_,_,_,_,_,_,_,_,_⟩ a;exact zO a
         refine Dd [0,0,0,0,0,0,0,0,0] ?_;obtain ⟨_,a,_⟩:=jE Db a;obtain ⟨_,a⟩ | ⟨_,a⟩:=cE a
         . obtain ⟨_,a⟩ | ⟨_,a⟩:=cE a
           . refine Ec a Jp ?_;rintro ⟨_,_,_,_,_,_,_,_,_,_⟩ a;exact zO a
           refine Ec a H0 ?_;rintro ⟨_,_,_,_⟩ a;refine Ec a Zr ?_;rintro ⟨_,_⟩ a;refine Ec a Jp ?_;rintro ⟨_,_,_,_,_,_,_,_,_,_⟩ a;exact zO a
         refine Dd [0,0,0,0,0,0,0,2,0,0,0,0,0] ?_;refine FO a Xi ?_;rintro ⟨_,_⟩ a;obtain ⟨o,g,a⟩:=bE a;refine H2 g [0,6,11,12] [6] (λ q=>[(14,iD q.2.2)]) (λ q=>DX.h ({b with CQ:=q.1,CR:=q.2.1})) ?_;rintro ⟨p,s,t⟩ _ Agg Bz1;rw[Alu.eq_1] at Agg;obtain ⟨_,Agg⟩ | ⟨_,Agg⟩:=cK Agg
         . cases kR Agg;obtain ⟨_,a,_,f,_⟩:=jE Db a;have _:=sl f;refine Ec a Zr ?_;rintro ⟨_,_⟩ a;refine C5 [6,1000000] [0,0,0,0,0,0,0,0,1,2,0,0,0,3] ?_;obtain ⟨e,a⟩:=gE a;refine He e ?_;refine Ec a Jp ?_;rintro ⟨_,_,_,_,_,_,_,_,_,_⟩ a;exact zO a
         refine C5 [1000000] [0,0,0,0,0,0,0,0,0,0,2,0,0,0,0,0,0,4] ?_;obtain ⟨_,Agg,_⟩:=jK Dl Agg;refine Sc Agg N2 ?_;rintro ⟨_,_⟩ Agg;exact AL (Bz1 _ _ (kI Agg))
       refine Dd [0,0,0,0,0,0,0,0,0,0,0,0,0,3] ?_;obtain ⟨_,a,_⟩:=jE Db a;refine FO a Gl λ _ a=>?_;refine Ec a Jp ?_;rintro ⟨_,_,_,_,_,_,_,_,_,_⟩ a;exact zO a
     obtain ⟨m,Cal,a⟩:=bE a;refine H2 Cal [0,3] [] (λ q=>[(10,iD q.2)]) (λ q=>DX.h ({b with CP:=q.1})) ?_;rintro ⟨n,Aju⟩ _ VG Bsa;rw[Avr.eq_1] at VG;obtain ⟨_,VG⟩ | ⟨_,VG⟩:=cK VG
     . cases kR VG;refine Ec a Jp ?_;rintro ⟨_,_,_,_,_,_,_,_,_,_⟩ a;exact zO a
     obtain ⟨_,VG,_⟩:=jK Dl VG;refine Fy VG Gl λ _ VG=>?_;exact AL (Bsa _ _ (kI VG))
   refine Ec a Af7 ?_;rintro ⟨_,_,_,_,_⟩ a;exact zO a
 refine Ec a Gl λ _ a=>?_;exact zO a
def SO(b:Nt)(e:Ac):Int->Option ((Int)⊕(Int⊕Int))
 | a=>cond (a<(b.blocks.length:Int)) ((CU b.blocks a).bind λ f=>cond (f.name=e) (some (.inr (.inr ((a:Int))))) (some (.inl (i64.wrap (a+1))))) (some (.inr (.inl a)))
def Ha(b:Nt)(e:Ac):Option (Int):=
 (C9 (SO b e) 0).bind (λ | .inl F4=>some (-1) | .inr (a)=>some a)
theorem M9{e f r}(a:Ha e f=some r):
   Rq 176 [.agg e.c,.p (.str f)] [] [] (iD r):=by
 refine EA func176 Az0 ?_;unfold Ha at a;obtain ⟨i,g,a⟩:=bE a;refine H2 g [1,2] [2] (λ q=>[(5,iD q)]) (λ _=>[]) ?_;rintro j _ EL b;rw[SO.eq_1] at EL;obtain ⟨_,EL⟩ | ⟨_,EL⟩:=cK EL
 . cases kR EL;exact zP a
 obtain ⟨_,EL,_⟩:=jK Avn EL;obtain ⟨_,EL⟩ | ⟨_,EL⟩:=cK EL
 . exact AL (b _ _ (kI EL))
 cases kR EL;exact zP a
def C3(a:Int):Option (OU):=
 some (⟨a,0⟩:OU)
theorem Dg{a r}(b:C3 a=some r):
   Rq 165 [iD a] [] [] (.agg r.c):=by
 refine EA func165 Azb ?_;unfold C3 at b;exact zP b
def P7(f:Nt)(i:Ad)(j:Aa)(b:Aa)(n:Ao)(k:Ag)(l:Cm4):Option (OU×Aa):=
 (Ha f l.a).bind λ e=>cond (e<0) ((C3 3).bind λ GA=>some (GA,b)) ((E0 (⟨i,j,b⟩:Me)).bind λ g=>(CU g e).bind λ m=>cond m ((C3 6).bind λ P1=>some (P1,b)) ((FA k).bind λ (G3,Ju,Lq)=>(La f g e Ju).bind λ I8=>cond I8 (cond (b.length+1<10000000) ((C3 1).bind λ I4=>some (I4,(b++[e]))) none) ((C3 5).bind λ RY=>some (RY,b))))
theorem Amv{m f g i b e n r}(a:P7 m f g i b e n=some r):
   Rq 168 [.agg m.c,.ptr 1000000 0,.agg n.c] [(1000000,.box [sD (Dn f),sD (CT g),rD 1000001 i,rD 1000002 b,rD 1000003 e]),(1000001,.arr 3 1 (CT i)),(1000002,.arr 229 5 (DF b)),(1000003,.arr 171 13 (Ed e))] [(1000000,.box [sD (Dn f),sD (CT g),rD 1000001 r.2,rD 1000002 b,rD 1000003 e]),(1000001,.arr 3 1 (CT r.2)),(1000002,.arr 229 5 (DF b)),(1000003,.arr 171 13 (Ed e))] (.agg r.1.c):=by
 refine EA func168 Az8 ?_;unfold P7 at a;refine Ec a M9 λ _ a=>?_;obtain ⟨_,a⟩ | ⟨_,a⟩:=cE a
 . obtain ⟨_,o,a⟩:=bE a;refine A ?_;refine Aw2 rfl rfl (FN o) A4 ?_;rintro p r ⟨rfl,rfl⟩;refine ⟨_,_,_,rfl,Zl _,rfl,?_⟩;obtain ⟨_,a,_⟩:=jE DZ a;obtain ⟨_,a⟩ | ⟨_,a⟩:=cE a
   . obtain ⟨⟨_,_,_⟩,k,a⟩:=bE a;refine A ?_;refine CcB (HS k) ?_;obtain ⟨_,l,a⟩:=bE a;refine A ?_;refine CcB (Ac5 l) ?_;obtain ⟨_,a⟩ | ⟨_,a⟩:=cE a
     . refine Ec a Dg λ _ a=>?_;exact zO a
     obtain ⟨j,a⟩:=gE a;refine He j ?_;refine Ec a Dg λ _ a=>?_;exact zO a
   refine Ec a Dg λ _ a=>?_;exact zO a
 refine Ec a Dg λ _ a=>?_;exact zO a
def Vl(b:Nt)(e:Ac):Int->Option ((Int)⊕(Int⊕Int))
 | a=>cond (a<(b.CV.length:Int)) ((CU b.CV a).bind λ f=>cond (f.name=e) (some (.inr (.inr ((a:Int))))) (some (.inl (i64.wrap (a+1))))) (some (.inr (.inl a)))
def FR(b:Nt)(e:Ac):Option (Int):=
 (C9 (Vl b e) 0).bind (λ | .inl F4=>some (-1) | .inr (a)=>some a)
theorem K1{e f r}(a:FR e f=some r):
   Rq 177 [.agg e.c,.p (.str f)] [] [] (iD r):=by
 refine EA func177 Ayz ?_;unfold FR at a;obtain ⟨i,g,a⟩:=bE a;refine H2 g [1,2] [2] (λ q=>[(5,iD q)]) (λ _=>[]) ?_;rintro j _ EL b;rw[Vl.eq_1] at EL;obtain ⟨_,EL⟩ | ⟨_,EL⟩:=cK EL
 . cases kR EL;exact zP a
 obtain ⟨_,EL,_⟩:=jK Ex EL;obtain ⟨_,EL⟩ | ⟨_,EL⟩:=cK EL
 . exact AL (b _ _ (kI EL))
 cases kR EL;exact zP a
def SB(f:Nt)(e:Int):Aa×Int->Option ((Aa×Int)⊕((Aa×Int)))
 | (b,a)=>cond (0<=e) ((CU f.CV e).bind λ Jt=>cond (a<Jt.Ei) (cond (b.length+1<10000000) (some (.inl ((b++[(i64.wrap (Jt.base+a))]),(i64.wrap (a+1))))) none) (some (.inr (b,a)))) (some (.inr (b,a)))
def E9(a:Nt)(b:Ac):Option Aa:=
 (Ha a b).bind λ e=>cond (0<=e) (some [e]) ((FR a b).bind λ f=>(C9 (SB a f) ([],0)).bind (λ (Mx,O8)=>some Mx))
theorem IA{b g r}(a:E9 b g=some r):
   Rq 123 [.agg b.c,.p (.str g)] [] [] (sD (CT r)):=by
 refine EA func123 Baa ?_;unfold E9 at a;refine Ec a M9 λ _ a=>?_;obtain ⟨_,a⟩ | ⟨_,a⟩:=cE a
 . refine Ec a K1 λ j a=>?_;obtain ⟨i,f,a⟩:=bE a;refine A ?_;refine EX f (λ q=>⟨[(2,.ptr 2 0),(6,iD j),(7,rD 43 q.1),(8,iD q.2)],[(2,.box b.c),(43,.arr 3 1 (CT q.1))],45⟩) ((Wk.nil (t:=7) (q:=43) (sz:=1) 3 rfl rfl AV).trans WL) ?_;rintro ⟨k,l⟩ _ EM Agd;rw[SB.eq_1] at EM;obtain ⟨_,EM⟩ | ⟨_,EM⟩:=cK EM
   . cases kR EM;exact zP a
   obtain ⟨_,EM,_⟩:=jK Ex EM;obtain ⟨_,EM⟩ | ⟨_,EM⟩:=cK EM
   . cases kR EM;(try dsimp only at a);refine A ?_;exact zP a
   obtain ⟨e,EM⟩:=gK EM;refine He e ?_;exact AL (Agd _ _ (kI EM))
 exact zP a
def Abx(a:Aa):Ad×Aa×Aa×Int->Option ((Ad×Aa×Aa×Int)⊕((Ad×Aa×Aa×Int)))
 | (H3,IW,My,M7)=>cond (M7<(a.length:Int)) ((CU a M7).bind λ NG=>(N0 (⟨H3,IW,My⟩:Me) NG).bind λ NF=>some (.inl (NF.closed,NF.Dp,NF.C0,(i64.wrap (M7+1))))) (some (.inr (H3,IW,My,M7)))
def Abw(j:Ad)(k:Aa)(n:Aa)(l:Ag)(m:Aa):Int->Option ((Int)⊕(Int⊕(OU×Ad×Aa×Aa)))
 | a=>cond (a<(m.length:Int)) ((CU m a).bind λ e=>(CU k e).bind λ b=>(CU j e).bind λ f=>cond f (cond (0<=b) (cond (b<(l.length:Int)) ((CU l b).bind λ g=>cond (g.state=2) ((C3 10).bind λ i=>some (.inr (.inr (((i,j,k,n):OU×Ad×Aa×Aa))))) (some (.inl (i64.wrap (a+1))))) (some (.inl (i64.wrap (a+1))))) (some (.inl (i64.wrap (a+1))))) (some (.inl (i64.wrap (a+1))))) (some (.inr (.inl a)))
def P8(g:Nt)(b:Ad)(e:Aa)(f:Aa)(m:Ao)(j:Ag)(k:Cm4):Option (OU×Ad×Aa×Aa):=
 (E9 g k.a).bind λ i=>cond ((i.length:Int)=0) ((C3 3).bind λ Amb=>some (Amb,b,e,f)) ((C9 (Abw b e f j i) 0).bind (λ | .inl l=>(C9 (Abx i) (b,e,f,0)).bind (λ (v139,Aju,v141,v142)=>(FA j).bind λ (Aw9,Aw8,Arj)=>(E0 (⟨b,e,f⟩:Me)).bind λ Bce=>(G6 g Bce Aw8).bind λ Amc=>cond Amc ((E0 (⟨v139,Aju,v141⟩:Me)).bind λ Bn2=>(G6 g Bn2 Aw8).bind λ Arh=>cond Arh ((C3 1).bind λ Bwp=>some (Bwp,v139,Aju,v141)) ((C3 5).bind λ Bwr=>some (Bwr,b,e,f))) ((C3 1).bind λ Bn3=>some (Bn3,v139,Aju,v141))) | .inr (Bys)=>some Bys))
theorem Amw{m n o p e f s r}(a:P8 m n o p e f s=some r):
   Rq 169 [.agg m.c,.ptr 1000000 0,.agg s.c] [(1000000,.box [sD (Dn n),sD (CT o),sD (CT p),rD 1000001 e,rD 1000002 f]),(1000001,.arr 229 5 (DF e)),(1000002,.arr 171 13 (Ed f))] [(1000000,.box [sD (Dn r.2.1),sD (CT r.2.2.1),sD (CT r.2.2.2),rD 1000001 e,rD 1000002 f]),(1000001,.arr 229 5 (DF e)),(1000002,.arr 171 13 (Ed f))] (.agg r.1.c):=by
 refine EA func169 Az7 ?_;unfold P8 at a;refine Ec a IA λ _ a=>?_;obtain ⟨_,a⟩ | ⟨_,a⟩:=cE a
 . obtain ⟨u,g,a⟩:=bE a;refine H2 g [1,3,6,7,8] [3,6,8,1000000,1000001,1000002] (λ q=>[(9,iD q)]) (λ _=>[]) ?_;rintro v _ Hw b;rw[Abw.eq_1] at Hw;obtain ⟨_,Hw⟩ | ⟨_,Hw⟩:=cK Hw
   . cases kR Hw;obtain ⟨t,i,a⟩:=bE a;refine H2 i [1,3,6,7,8] [3,6,1000000,1000001,1000002] (λ q=>[(11,iD q.2.2.2)]) (λ q=>[(8,.box [sD (Dn q.1),sD (CT q.2.1),sD (CT q.2.2.1)])]) ?_;rintro ⟨H3,IW,My,M7⟩ _ JQ Bk3;rw[Abx.eq_1] at JQ;obtain ⟨_,JQ⟩ | ⟨_,JQ⟩:=cK JQ
     . cases kR JQ;obtain ⟨⟨_,_,_⟩,j,a⟩:=bE a;refine A ?_;refine CcB (HS j) ?_;refine Hx [0,10,20,30,40,60,52,72,80,90,100,120,112,132,140,150] ?_;refine FO a FN λ _ a=>?_;obtain ⟨_,k,a⟩:=bE a;refine A ?_;refine GhB (Jh k) ?_;obtain ⟨_,a⟩ | ⟨_,a⟩:=cE a
       . refine Ec a Dg λ _ a=>?_;exact zO a
       refine FO a FN λ _ a=>?_;obtain ⟨_,l,a⟩:=bE a;refine A ?_;refine GhB (Jh l) ?_;obtain ⟨_,a⟩ | ⟨_,a⟩:=cE a
       . refine Ec a Dg λ _ a=>?_;exact zO a
       refine Ec a Dg λ _ a=>?_;exact zO a
     refine Dd [0,0,0,0,0,3,3] ?_;obtain ⟨_,JQ,_⟩:=jK Dl JQ;refine Sc JQ Ak3 λ _ JQ=>?_;exact AL (Bk3 _ _ (kI JQ))
   refine Dd [0,0,0,0,0,0,0,0,0] ?_;obtain ⟨_,Hw,_⟩:=jK Dl Hw;obtain ⟨_,Hw,_⟩:=jK Dl Hw;refine Dd [0,0,0,0,0,0,0,0,0,0,0,0,0,0,0,0,0,0,0,0,0,0,0,0,0,0,0,0,0,0,0,0] ?_;obtain ⟨_,Hw,_⟩:=jK DZ Hw;obtain ⟨_,Hw⟩ | ⟨_,Hw⟩:=cK Hw
   . exact AL (b _ _ (kI Hw))
   obtain ⟨_,Hw⟩ | ⟨_,Hw⟩:=cK Hw
   . exact AL (b _ _ (kI Hw))
   obtain ⟨_,Hw⟩ | ⟨_,Hw⟩:=cK Hw
   . exact AL (b _ _ (kI Hw))
   obtain ⟨_,Hw,_⟩:=jK Db Hw;obtain ⟨_,Hw⟩ | ⟨_,Hw⟩:=cK Hw
   . exact AL (b _ _ (kI Hw))
   refine Fy Hw Dg λ _ Hw=>?_;cases kR Hw;exact zO a
 refine Ec a Dg λ _ a=>?_;exact zO a
def SU(g:Ad)(i:Aa)(j:Aa)(a:Ao)(k:Ag)(b:Cm4):Option (OU×Ao):=
 cond (b.n<0) ((C3 3).bind λ Jb=>some (Jb,a)) (cond ((a.length:Int)<=b.n) ((C3 3).bind λ Ju=>some (Ju,a)) ((CU a b.n).bind λ e=>cond (3<=e.state) ((C3 11).bind λ Ir=>some (Ir,a)) ((C3 1).bind λ f=>some (f,(a.set b.n.toNat {e with state:=4})))))
def SD(e:Ao):Int×Int->Option ((Int×Int)⊕((Int×Int)))
 | (b,a)=>cond (a<(e.length:Int)) ((CU e a).bind λ G3=>cond (G3.state=0) (some (.inl ((i64.wrap (b+1)),(i64.wrap (a+1))))) (some (.inl (b,(i64.wrap (a+1)))))) (some (.inr (b,a)))
def HQ(a:Ao):Option (Int):=
 (C9 (SD a) (0,0)).bind (λ (H3,IW)=>some H3)
theorem R1{b r}(a:HQ b=some r):
   Rq 173 [sD (DF b)] [] [] (iD r):=by
 refine EA func173 Az3 ?_;unfold HQ at a;obtain ⟨f,e,a⟩:=bE a;refine H2 e [0] [] (λ q=>[(3,iD q.1),(4,iD q.2)]) (λ _=>[]) ?_;rintro ⟨g,i⟩ _ EU Y9;rw[SD.eq_1] at EU;obtain ⟨_,EU⟩ | ⟨_,EU⟩:=cK EU
 . cases kR EU;exact zP a
 obtain ⟨_,EU,_⟩:=jK EG EU;obtain ⟨_,EU⟩ | ⟨_,EU⟩:=cK EU
 . exact AL (Y9 _ _ (kI EU))
 exact AL (Y9 _ _ (kI EU))
def YU(f:Nt)(m:Ad)(n:Aa)(o:Aa)(e:Ao)(q:Ag)(j:Cm4):Option (OU×Ao):=
 cond (j.a=j.b) ((C3 0).bind λ l=>some (l,e)) ((FR f j.a).bind λ g=>(FR f j.b).bind λ i=>cond (g<0) ((C3 3).bind λ Mu=>some (Mu,e)) (cond (i<0) ((C3 3).bind λ k=>some (k,e)) ((CU f.CV g).bind λ p=>cond p.Fw ((C3 3).bind λ KO=>some (KO,e)) ((CU f.CV i).bind λ Lq=>cond Lq.Fw ((C3 3).bind λ WS=>some (WS,e)) ((E0 (⟨m,n,o⟩:Me)).bind λ RY=>(FP f RY g).bind λ RX=>cond RX ((FP f RY i).bind λ GA=>cond GA ((HQ e).bind λ Mv=>cond (f.cq<=Mv) ((C3 2).bind λ Sd=>some (Sd,e)) (cond ((e.length:Int)=32) ((C3 2).bind λ NH=>some (NH,e)) (cond (e.length+1<10000000) (some ((⟨1,(i64.wrap ((((e++[(⟨g,i,0,(-1),0⟩:Tsk)]).length:Nat):Int) - 1))⟩:OU),(e++[(⟨g,i,0,(-1),0⟩:Tsk)]))) none))) ((C3 4).bind λ OV=>some (OV,e))) ((C3 4).bind λ P1=>some (P1,e)))))))
def SS(f:Ad)(g:Aa)(i:Aa)(j:Ao)(a:Ag)(b:Cm4):Option (OU×Ag):=
 cond (b.n<0) ((C3 3).bind λ Nr=>some (Nr,a)) (cond ((a.length:Int)<=b.n) ((C3 3).bind λ GA=>some (GA,a)) ((CU a b.n).bind λ e=>cond (e.state=3) ((C3 3).bind λ P1=>some (P1,a)) (cond (e.state=2) ((C3 1).bind λ I4=>some (I4,a)) (cond e.Fc ((C3 1).bind λ OT=>some (OT,a)) ((FA a).bind λ (Ir,G3,Ju)=>cond (Ju=1) ((C3 9).bind λ Hy=>some (Hy,a)) ((C3 1).bind λ I8=>some (I8,(a.set b.n.toNat {e with Fc:=true}))))))))
def VV(e:Nt)(f:Ad)(l:Aa)(g:Aa)(m:Ao)(n:Ag)(i:Cm4):Option (OU):=
 (Ha e i.a).bind λ b=>cond (b<0) ((C3 3).bind λ Jb=>some Jb) ((CU f b).bind λ j=>cond j (some (⟨12,2⟩:OU)) ((HJ g b).bind λ k=>cond k (some (⟨12,1⟩:OU)) ((C3 12).bind λ Ju=>some Ju)))
def Uh(e:Int):Aa×Int->Option ((Aa×Int)⊕((Aa×Int)))
 | (b,a)=>cond (a<e) ((CU b a).bind λ Jb=>some (.inl ((b.set a.toNat (-1)),(i64.wrap (a+1))))) (some (.inr (b,a)))
def SZ(a:Int):Option (KM×Int):=
 cond (a<0) (some ((⟨[],[]⟩:KM),19)) (cond (48<a) (some ((⟨[],[]⟩:KM),19)) (cond ((0<=a)&&decide (a.toNat<10000000)) ((C9 (Uh a) ((List.replicate a.toNat 0),0)).bind (λ (My,M7)=>some ((⟨My,(List.replicate a.toNat ([]:Aa))⟩:KM),0))) none))
theorem Amz(a0)(r)(a:SZ a0=some r)(i:r.2=0):
   C4 prog 70 [iD a0] [] λ h d=>h=[(0,.arr 3 1 (CT r.1.CQ)),(1,.arr 23 1 (DA r.1.CR))]/\d= .Em [.agg [rD 0 r.1.CQ,rD 1 r.1.CR],iD r.2]:=by
 refine Dw func70 rfl Bfy (by simp[Tryz.f70]) ?_;unfold SZ at a;obtain ⟨j,a⟩ | ⟨j,a⟩:=cE a
 . obtain ⟨k,a⟩ | ⟨k,a⟩:=cE a
   . refine Hx [0,20,11,31,40,51,63] ?_;obtain ⟨g,a⟩:=gE a;refine A ?_;refine ⟨by simp only[BA,BM] at g;omega,?_⟩;refine A ?_;refine ⟨by simp only[BA,BM] at g;omega,?_⟩;obtain ⟨l,e,a⟩:=bE a;(try simp only[go_sem, *,Bhb]);refine XP e [0,2,4] [2,16] (λ q=>[(5,iD q.2)]) (λ q=>[(4,.box [rD 14 q.1,.ref 16 0 ((List.replicate (Int.toNat a0) ([]:Aa)).length) ((List.replicate (Int.toNat a0) ([]:Aa)).length)]),(14,.arr 3 1 (CT q.1))]) ?_;rintro ⟨s,t⟩ p FD f;rw[Uh.eq_1] at FD;obtain ⟨b,FD⟩ | ⟨b,FD⟩:=cK FD
     . cases kR FD;exact zO a
     obtain ⟨Jb,FD,o,m,n⟩:=jK Dl FD;exact AL (f _ _ (kI FD))
   cases a;first | exact absurd i AV | (exfalso;simp_all;done)
 cases a;first | exact absurd i AV | (exfalso;simp_all;done)
def Nu:Lp (Aa×Int) (Aa×Int)
 | (a,I9)=>cond (I9<(a.length:Int)) ((CU a I9).bind λ RX=>some (.inl ((a.set I9.toNat (-1)),(i64.wrap (I9+1))))) (some (.inr (a,I9)))
def MA(a:Nt):Option (Me×Int):=
 (u_r03_Valid_v a).bind λ f=>cond f ((Fp a).bind λ b=>cond ((0<=b)&&decide (b.toNat<10000000)) ((Fp a).bind λ e=>cond ((0<=e)&&decide (e.toNat<10000000)) ((C9 Nu ((List.replicate e.toNat 0),0)).bind (λ (v24,Ls)=>some ((⟨(List.replicate b.toNat false),v24,[]⟩:Me),0))) none) none) (some ((⟨[],[],[]⟩:Me),20))
theorem Afy{e r}(a:MA e=some r):
   Rq 69 [.agg e.c] [] [] (.Em [.agg r.1.c,iD r.2]):=by
 refine EA func69 Bfz ?_;unfold MA at a;refine Ec a F8 λ _ a=>?_;refine cP a λ _ a=>?_;refine Hx [0,30,71,12,21,42,51,60,83] ?_;refine FO a IE λ f a=>?_;obtain ⟨g,a⟩:=gE a;refine A ?_;refine ⟨by simp only[BA,BM] at g;omega,?_⟩;try simp only[go_sem, *,GQ]
 refine FO a IE λ _ a=>?_;obtain ⟨i,a⟩:=gE a;refine A ?_;refine ⟨by simp only[BA,BM] at i;omega,?_⟩;obtain ⟨j,b,a⟩:=bE a;refine H2 b [2,4] [2,12] (λ q=>[(5,iD q.2)]) (λ q=>[(4,.box [.ref 12 0 ((List.replicate (Int.toNat f) false).length) ((List.replicate (Int.toNat f) false).length),rD 15 q.1,.cl []]),(15,.arr 3 1 (CT q.1))]) ?_;rintro ⟨k,I9⟩ _ EP Aax;rw[Nu.eq_1] at EP;obtain ⟨_,EP⟩ | ⟨_,EP⟩:=cK EP
 . cases kR EP;exact zP a
 obtain ⟨_,EP,_⟩:=jK Dl EP;exact AL (Aax _ _ (kI EP))
def IX(p:List Blk)(q:Ab)(r:List Su)(s:Aa)(t:Int)(u:Int)(v:Int)(w:Int)(x:Aa)(y:Ab)(a:Ad)(b:Aa)(e:Aa)(f:Ag)(g:Ao)(i:Bool)(j:Aw)(k:Ak)(l:AA)(m:Aa)(n:Aa):Option Ad:=
 (E0 (⟨a,b,e⟩:Me)).bind λ o=>some o
theorem UR{s t u v w x y z o p b e f a g i j k l m n r}(q:IX s t u v w x y z o p b e f a g i j k l m n=some r):
   Rq 115 [.ptr 1000000 0] [(1000000,.box [sD (FM s),sD (DA t),sD (Gy u),sD (CT v),iD w,iD x,iD y,iD z,rD 1000001 o,rD 1000002 p,sD (Dn b),sD (CT e),sD (CT f),rD 1000003 a,sD (DF g),bD i,sD (Eu j),sD (FL k),sD (Hz l),sD (CT m),sD (CT n)]),(1000001,.arr 3 1 (CT o)),(1000002,.arr 23 1 (DA p)),(1000003,.arr 171 13 (Ed a))] [(1000000,.box [sD (FM s),sD (DA t),sD (Gy u),sD (CT v),iD w,iD x,iD y,iD z,rD 1000001 o,rD 1000002 p,sD (Dn b),sD (CT e),sD (CT f),rD 1000003 a,sD (DF g),bD i,sD (Eu j),sD (FL k),sD (Hz l),sD (CT m),sD (CT n)]),(1000001,.arr 3 1 (CT o)),(1000002,.arr 23 1 (DA p)),(1000003,.arr 171 13 (Ed a))] (sD (Dn r)):=by
 refine EA func115 Aih ?_;unfold IX at q;refine Ec q FN λ _ q=>?_;exact zP q
def Is(o:List Blk)(p:Ab)(q:List Su)(r:Aa)(s:Int)(t:Int)(u:Int)(v:Int)(w:Aa)(x:Ab)(b:Ad)(e:Aa)(f:Aa)(a:Ag)(g:Ao)(i:Bool)(j:Aw)(k:Ak)(l:AA)(m:Aa)(n:Aa):Option (Bool):=
 (FA a).bind λ (x1,x2,x3)=>(IX o p q r s t u v w x b e f a g i j k l m n).bind λ y=>(G6 (⟨o,p,q,r,s,t,u,v⟩:Nt) y x2).bind λ z=>cond z (some (decide (0<x3))) (some false)
theorem Sz{s t u v w x y z p q e f g a i j k l m n o r}(b:Is s t u v w x y z p q e f g a i j k l m n o=some r):
   Rq 73 [.ptr 1000000 0] [(1000000,.box [sD (FM s),sD (DA t),sD (Gy u),sD (CT v),iD w,iD x,iD y,iD z,rD 1000001 p,rD 1000002 q,sD (Dn e),sD (CT f),sD (CT g),rD 1000003 a,sD (DF i),bD j,sD (Eu k),sD (FL l),sD (Hz m),sD (CT n),sD (CT o)]),(1000001,.arr 3 1 (CT p)),(1000002,.arr 23 1 (DA q)),(1000003,.arr 171 13 (Ed a))] [(1000000,.box [sD (FM s),sD (DA t),sD (Gy u),sD (CT v),iD w,iD x,iD y,iD z,rD 1000001 p,rD 1000002 q,sD (Dn e),sD (CT f),sD (CT g),rD 1000003 a,sD (DF i),bD j,sD (Eu k),sD (FL l),sD (Hz m),sD (CT n),sD (CT o)]),(1000001,.arr 3 1 (CT p)),(1000002,.arr 23 1 (DA q)),(1000003,.arr 171 13 (Ed a))] (bD r):=by
 refine EA func73 Ap1 ?_;unfold Is at b;obtain ⟨⟨_,_,_⟩,B,b⟩:=bE b;refine A ?_;refine CcB (HS B) ?_;refine Hx [0,10,20,30,40,60,52,72,80,90,100,110,120] ?_;refine FO b UR λ _ b=>?_;refine FO b Jh λ _ b=>?_;refine cO b λ _ b=>?_;exact zO b
def Ah7(a:Nt):Aa×Ag×Int->Option ((Aa×Ag×Int)⊕((Aa×Ag×Int)))
 | (F4,Hu,H3)=>cond (H3<(a.C8.length:Int)) ((CU a.C8 H3).bind λ GA=>(CU F4 GA).bind λ RV=>(K3 a GA).bind λ KR=>(K2 a GA).bind λ NH=>cond (Hu.length+1<10000000) (some (.inl ((F4.set GA.toNat H3),(Hu++[(⟨1,false,KR,GA,(-1),0,false,false,(-1),0,NH,0,0⟩:KP)]),(i64.wrap (H3+1))))) none) (some (.inr (F4,Hu,H3)))
def SR(a:Nt):Option (Lo×Int):=
 (MA a).bind λ (x1,x2)=>cond (x2=0) ((Fp a).bind λ b=>(SZ b).bind λ (x7,x8)=>cond (x8=0) ((C9 (Ah7 a) (x7.CQ,[],0)).bind (λ (v38,v39,v40)=>(Is a.blocks a.next a.CV a.C8 a.cq a.ca a.cd a.cp v38 x7.CR x1.closed x1.Dp x1.C0 v39 [] false [] [] [] [] []).bind λ KO=>some ((⟨v38,x7.CR,x1.closed,x1.Dp,x1.C0,v39,[],!KO⟩:Lo),0))) none) (some ((⟨[],[],[],[],[],[],[],false⟩:Lo),x2))
theorem Arr{b r}(a:SR b=some r):
   Rq 39 [.agg b.c] [] [] (.Em [.agg r.1.c,iD r.2]):=by
 refine EA func39 Bgn ?_;unfold SR at a;refine Ec a Afy ?_;rintro ⟨k,_⟩ a;refine cP a λ _ a=>?_;refine Ec a IE λ o a=>?_;obtain ⟨⟨l,_⟩,n,a⟩:=bE a;obtain ⟨e,a⟩:=gE a;refine A ?_;refine YA (Amz o _ n (Bg e)) ?_;obtain ⟨m,g,a⟩:=bE a;refine A ?_;refine EX g (λ q=>⟨[(1,.ptr 1 0),(2,.ptr 2 0),(6,.ptr 6 0),(7,iD q.2.2)],[(1,.box b.c),(2,.box [.cl [],.cl [],.cl [],.cl [],.cl [],.cl [],.cl [],bD false]),(6,.box [rD 10024 q.1,rD 20024 l.CR,sD (Dn k.closed),sD (CT k.Dp),sD (CT k.C0),rD 57 q.2.1,.cl [],bD false]),(57,.arr 171 13 (Ed q.2.1)),(10024,.arr 3 1 (CT q.1)),(20024,.arr 23 1 (DA l.CR))],74⟩) ((Wk.EV (id:=6) (j:=5) (q:=57) (sz:=13) 171 rfl rfl rfl AV).trans WL) ?_;rintro ⟨F4,Hu,H3⟩ _ GV Axi;rw[Ah7.eq_1] at GV;obtain ⟨_,GV⟩ | ⟨_,GV⟩:=cK GV
 . cases kR GV;obtain ⟨_,i,a⟩:=bE a;refine A ?_;refine Nq ((Wk.Ajg (id:=62) (j:=14) (es:=[]) rfl rfl).trans ((Wk.Ajg (id:=62) (j:=16) (es:=[]) rfl rfl).trans ((Wk.Ajg (id:=62) (j:=17) (es:=[]) rfl rfl).trans ((Wk.Ajg (id:=62) (j:=18) (es:=[]) rfl rfl).trans ((Wk.Ajg (id:=62) (j:=19) (es:=[]) rfl rfl).trans (Wk.Ajg (id:=62) (j:=20) (es:=[]) rfl rfl)))))) ?_;(try simp only[go_sem, *,BQ,BT]);refine YA (Sz i) ?_;exact zP a
 obtain ⟨_,GV,_⟩:=jK Dl GV;obtain ⟨_,GV,_⟩:=jK Dl GV;refine Ey [1,6] [0,10,20,30,50,60,70,42,82,90,101,112,120,133] ?_;refine Sc GV NU λ _ GV=>?_;refine Sc GV NT λ _ GV=>?_;obtain ⟨f,GV⟩:=gK GV;refine He f ?_;exact AL (Axi _ _ (kI GV))
structure Bll where (Btb:Int) (Bu5:Aa) (Ei:Int) (cap:Int)
def P5(f:Ab)(g:Int)(e:Aa):Int×Int->Option ((Int×Int)⊕((Int×Int)))
 | (b,a)=>(CU f g).bind λ Hy=>cond (a<(Hy.length:Int)) ((CU Hy a).bind λ OS=>(CU e OS).bind λ NH=>cond (0<=NH) (cond (b<0) (some (.inl (OS,(i64.wrap (a+1))))) ((CU e b).bind λ KO=>cond (NH<KO) (some (.inl (OS,(i64.wrap (a+1))))) (some (.inl (b,(i64.wrap (a+1))))))) (some (.inl (b,(i64.wrap (a+1)))))) (some (.inr (b,a)))
def ID(b:Ab)(e:Ad)(a:Int):Option Aa:=
 (CU e a).bind λ f=>cond f (some []) ((Gx b e a).bind λ g=>(C9 (P5 b a g) ((-1),0)).bind (λ (v46,v47)=>cond (v46<0) (some []) ((Gt b e v46 a).bind λ Ue=>cond (Ue≠[]) (cond (0<=(i64.wrap ((Ue.length:Int) - 1))/\(i64.wrap ((Ue.length:Int) - 1))<=(Ue.length:Int)) (cond ([a].length+(Ue.take (Int.toNat (i64.wrap ((Ue.length:Int) - 1)))).length<10000000) (some ([a]++(Ue.take (Int.toNat (i64.wrap ((Ue.length:Int) - 1)))))) none) none) none)))
theorem W2{b e f r}(a:ID b e f=some r):
   Rq 67 [sD (DA b),sD (Dn e),iD f] [] [] (sD (CT r)):=by
 refine EA func67 Ap3 ?_;unfold ID at a;obtain ⟨_,a,_⟩:=jE DZ a;obtain ⟨n,a⟩ | ⟨n,a⟩:=cE a
 . refine Ec a Je λ _ a=>?_;obtain ⟨o,k,a⟩:=bE a;refine H2 k [0,1,2,7] [] (λ q=>[(8,iD q.1),(9,iD q.2)]) (λ _=>[]) ?_;rintro ⟨m,p⟩ _ FU At3;rw[P5.eq_1] at FU;obtain ⟨_,FU,_⟩:=jK I3 FU;obtain ⟨_,FU⟩ | ⟨_,FU⟩:=cK FU
   . cases kR FU;(try dsimp only at a);refine A ?_;obtain ⟨_,a⟩ | ⟨_,a⟩:=cE a
     . obtain ⟨P1,l,a⟩:=bE a;obtain ⟨g,a⟩:=gE a;refine A ?_;refine YA (P3 b e m f _ l (Bg g)) ?_;obtain ⟨i,a⟩:=gE a;have _:=Bg i;have _:(Int.toNat (i64.wrap (((P1.length:Nat):Int) - 1)))<=P1.length:=AQ;have _:(((i64.wrap (((P1.length:Nat):Int) - 1))) - 0).toNat=(Int.toNat (i64.wrap (((P1.length:Nat):Int) - 1))):=AT;obtain ⟨j,a⟩:=gE a;(try simp only[go_sem, *,Aeo,Zm]);refine An j ?_;cases a;(try simp only[go_sem, *,Aeo,Zm]);all_goals (try refine Dt ?_)
       all_goals (try simp only[go_sem,n,Aeo,Zm])
       all_goals (try (first | rfl | exact ⟨rfl,rfl⟩ | exact Bb1 _ _ | exact J7 _ | (simp;done)))
     exact zP a
   obtain ⟨_,FU,_⟩:=jK Dl FU;refine Dd [0,0,0,0,0,0,0,0,0,0,0,0,0,0,0,0,0,0,0,0] ?_;obtain ⟨_,FU,_⟩:=jK Dl FU;obtain ⟨_,FU⟩ | ⟨_,FU⟩:=cK FU
   . exact AL (At3 _ _ (kI FU))
   obtain ⟨_,FU⟩ | ⟨_,FU⟩:=cK FU
   . obtain ⟨_,FU,_⟩:=jK Dl FU;obtain ⟨_,FU⟩ | ⟨_,FU⟩:=cK FU
     . exact AL (At3 _ _ (kI FU))
     exact AL (At3 _ _ (kI FU))
   exact AL (At3 _ _ (kI FU))
 exact zP a
def SM(e:Ab)(f:Ad):Aa×Int->Option ((Aa×Int)⊕((Aa×Int)))
 | (b,a)=>cond (a<(e.length:Int)) ((ID e f a).bind λ Jb=>cond (0<(Jb.length:Int)) (cond ((b.length:Int)=0) (some (.inl (Jb,(i64.wrap (a+1))))) (cond ((Jb.length:Int)<(b.length:Int)) (some (.inl (Jb,(i64.wrap (a+1))))) (some (.inl (b,(i64.wrap (a+1))))))) (some (.inl (b,(i64.wrap (a+1)))))) (some (.inr (b,a)))
def JY(a:Ab)(b:Ad):Option (Int×Aa×Int):=
 (Tg a b).bind λ e=>cond (e=0) ((C9 (SM a b) ([],0)).bind (λ (M7,v20)=>some ((M7.length:Int),M7,0))) (some (0,[],e))
theorem Aav{f g r}(b:JY f g=some r):
   Rq 36 [sD (DA f),sD (Dn g)] [] [] (.Em [iD r.1,sD (CT r.2.1),iD r.2.2]):=by
 refine EA func36 Apa ?_;unfold JY at b;refine Ec b Ans λ _ b=>?_;refine cP b λ _ b=>?_;obtain ⟨j,i,b⟩:=bE b;refine A ?_;refine EX i (λ q=>⟨[(0,sD (DA f)),(1,sD (Dn g)),(8,sD (CT q.1)),(9,iD q.2)],[],46⟩) ((Wk.nil (t:=8) (q:=900008) (sz:=1) 3 rfl rfl AV).trans ((Wk.pure (t:=8) (id:=900008) (sz:=1) (e:=3) (es:=[]) rfl rfl).trans WL)) ?_;rintro ⟨k,l⟩ _ FD a;rw[SM.eq_1] at FD;obtain ⟨_,FD⟩ | ⟨_,FD⟩:=cK FD
 . cases kR FD;exact zP b
 refine Fy FD W2 λ _ FD=>?_;obtain ⟨_,FD⟩ | ⟨_,FD⟩:=cK FD
 . exact AL (a _ _ (kI FD))
 obtain ⟨_,FD⟩ | ⟨_,FD⟩:=cK FD
 . obtain ⟨_,FD⟩ | ⟨_,FD⟩:=cK FD
   . exact AL (a _ _ (kI FD))
   exact AL (a _ _ (kI FD))
 exact AL (a _ _ (kI FD))
def LU(a:Nt):Option (Bll×Int):=
 (u_r03_Valid_v a).bind λ e=>cond e (cond (a.blocks.length<10000000) ((JY a.next (List.replicate a.blocks.length false)).bind λ (x5,x6,x7)=>(Fp a).bind λ b=>cond ((0<=b)&&decide (b.toNat<10000000)) ((IK a (List.replicate b.toNat false)).bind λ Ju=>cond (0<x5) (some ((⟨x5,x6,Ju,(if Ju<(i64.wrap (x5 - 1)) then Ju else (i64.wrap (x5 - 1)))⟩:Bll),0)) (some ((⟨x5,x6,Ju,Ju⟩:Bll),0))) none) none) (some ((⟨0,[],0,0⟩:Bll),20))
theorem Akb{f r}(a:LU f=some r):
   Rq 17 [.agg f.c] [] [] (.Em [.agg [iD r.1.Btb,sD (CT r.1.Bu5),iD r.1.Ei,iD r.1.cap],iD r.2]):=by
 refine EA func17 Ape ?_;unfold LU at a;refine Ec a F8 λ _ a=>?_;refine cP a λ _ a=>?_;refine Dd [0,0,0,0,0,1,2,0,0,0,0,0,0,0] ?_;obtain ⟨g,a⟩:=gE a;refine He g ?_;try simp only[go_sem, *,GQ]
 refine FO a Aav ?_;rintro ⟨_,_,_⟩ a;refine Hx [0,10,20,30,81,42,51,62,70,93] ?_;refine FO a IE λ _ a=>?_;obtain ⟨b,a⟩:=gE a;refine A ?_;refine ⟨by simp only[BA,BM] at b;omega,?_⟩;obtain ⟨_,e,a⟩:=bE a;try simp only[go_sem, *,GQ]
 refine GhB (R3 e) ?_;refine cP a λ _ a=>?_;exact zP a
def Aby(f:Nt)(g:Ad)(i:Aa)(j:Aa)(n:Ao)(b:Ag)(k:Cm4):Option (OU×Ag):=
 (FR f k.a).bind λ e=>cond (e<0) ((C3 3).bind λ Nj=>some (Nj,b)) ((CU f.CV e).bind λ l=>cond l.Fw ((LU f).bind λ (G3,Ju)=>(FA b).bind λ (Jb,I8,Jt)=>cond (G3.cap<=Jb) ((C3 7).bind λ LG=>some (LG,b)) (cond ((b.length:Int)=8) ((C3 7).bind λ Mv=>some (Mv,b)) ((E0 (⟨g,i,j⟩:Me)).bind λ RX=>(Kg b).bind λ Fj=>(Io f RX Fj e).bind λ RW=>cond (RW=0) ((C3 8).bind λ OV=>some (OV,b)) (cond (b.length+1<10000000) (some ((⟨1,(i64.wrap ((((b++[(⟨0,false,e,0,0,0,false,false,0,0,[],0,0⟩:KP)]).length:Nat):Int) - 1))⟩:OU),(b++[(⟨0,false,e,0,0,0,false,false,0,0,[],0,0⟩:KP)]))) none)))) ((C3 3).bind λ m=>some (m,b)))
def Mi(e:Nt)(f:Ad)(l:Aa)(g:Aa)(m:Ao)(n:Ag)(i:Cm4):Option (OU):=
 (Ha e i.a).bind λ b=>cond (b<0) ((C3 3).bind λ Jb=>some Jb) ((CU f b).bind λ j=>cond j (some (⟨12,2⟩:OU)) ((HJ g b).bind λ k=>cond k (some (⟨12,1⟩:OU)) ((C3 12).bind λ Ju=>some Ju)))
theorem Aao{k g i b e f l r}(a:Mi k g i b e f l=some r):
   Rq 172 [.agg k.c,.ptr 1000000 0,.agg l.c] [(1000000,.box [sD (Dn g),sD (CT i),rD 1000001 b,rD 1000002 e,rD 1000003 f]),(1000001,.arr 3 1 (CT b)),(1000002,.arr 229 5 (DF e)),(1000003,.arr 171 13 (Ed f))] [(1000000,.box [sD (Dn g),sD (CT i),rD 1000001 b,rD 1000002 e,rD 1000003 f]),(1000001,.arr 3 1 (CT b)),(1000002,.arr 229 5 (DF e)),(1000003,.arr 171 13 (Ed f))] (.agg r.c):=by
 refine EA func172 Az4 ?_;unfold Mi at a;refine Ec a M9 λ _ a=>?_;obtain ⟨_,a⟩ | ⟨_,a⟩:=cE a
 . obtain ⟨_,a,_⟩:=jE DZ a;obtain ⟨_,a⟩ | ⟨_,a⟩:=cE a
   . obtain ⟨_,j,a⟩:=bE a;refine A ?_;refine CcB (Ml j) ?_;obtain ⟨_,a⟩ | ⟨_,a⟩:=cE a
     . refine Ec a Dg λ _ a=>?_;exact zO a
     exact zO a
   exact zO a
 refine Ec a Dg λ _ a=>?_;exact zO a
def KV(f:Ad)(g:Aa)(i:Aa)(j:Ao)(a:Ag)(b:Cm4):Option (OU×Ag):=
 cond (b.n<0) ((C3 3).bind λ Nr=>some (Nr,a)) (cond ((a.length:Int)<=b.n) ((C3 3).bind λ GA=>some (GA,a)) ((CU a b.n).bind λ e=>cond (e.state=3) ((C3 3).bind λ P1=>some (P1,a)) (cond (e.state=2) ((C3 1).bind λ I4=>some (I4,a)) (cond e.Fc ((C3 1).bind λ OT=>some (OT,a)) ((FA a).bind λ (Ir,G3,Ju)=>cond (Ju=1) ((C3 9).bind λ Hy=>some (Hy,a)) ((C3 1).bind λ I8=>some (I8,(a.set b.n.toNat {e with Fc:=true}))))))))
theorem YQ{f g b e i k r}(a:KV f g b e i k=some r):
   Rq 171 [.ptr 1000000 0,.agg k.c] [(1000000,.box [sD (Dn f),sD (CT g),rD 1000001 b,rD 1000002 e,rD 1000003 i]),(1000001,.arr 3 1 (CT b)),(1000002,.arr 229 5 (DF e)),(1000003,.arr 171 13 (Ed i))] [(1000000,.box [sD (Dn f),sD (CT g),rD 1000001 b,rD 1000002 e,rD 1000003 r.2]),(1000001,.arr 3 1 (CT b)),(1000002,.arr 229 5 (DF e)),(1000003,.arr 171 13 (Ed r.2))] (.agg r.1.c):=by
 refine EA func171 Az5 ?_;unfold KV at a;refine Dd [0,0,0,0,0,0,0,0,0,0,0,0,0,0,0,0,0,0,0,0,0,0,0,0,0] ?_;obtain ⟨_,a⟩ | ⟨_,a⟩:=cE a
 . obtain ⟨_,a⟩ | ⟨_,a⟩:=cE a
   . obtain ⟨_,a,_⟩:=jE Db a;obtain ⟨_,a⟩ | ⟨_,a⟩:=cE a
     . refine Dd [0,0,0,0,0,0,0,0,1,3] ?_;obtain ⟨_,a⟩ | ⟨_,a⟩:=cE a
       . obtain ⟨_,a⟩ | ⟨_,a⟩:=cE a
         . obtain ⟨⟨_,_,_⟩,j,a⟩:=bE a;refine A ?_;refine CcB (HS j) ?_;obtain ⟨_,a⟩ | ⟨_,a⟩:=cE a
           . refine Dd [0,0,0,0,0,0,0,0,3] ?_;refine Ec a Dg λ _ a=>?_;exact zO a
           refine Ec a Dg λ _ a=>?_;exact zO a
         refine Ec a Dg λ _ a=>?_;exact zO a
       refine Ec a Dg λ _ a=>?_;exact zO a
     refine Ec a Dg λ _ a=>?_;exact zO a
   refine Ec a Dg λ _ a=>?_;exact zO a
 refine Ec a Dg λ _ a=>?_;exact zO a
def Pa(f:Nt)(g:Ad)(i:Aa)(j:Aa)(n:Ao)(b:Ag)(k:Cm4):Option (OU×Ag):=
 (FR f k.a).bind λ e=>cond (e<0) ((C3 3).bind λ Nj=>some (Nj,b)) ((CU f.CV e).bind λ l=>cond l.Fw ((LU f).bind λ (G3,Ju)=>(FA b).bind λ (Jb,I8,Jt)=>cond (G3.cap<=Jb) ((C3 7).bind λ LG=>some (LG,b)) (cond ((b.length:Int)=8) ((C3 7).bind λ Mv=>some (Mv,b)) ((E0 (⟨g,i,j⟩:Me)).bind λ RX=>(Kg b).bind λ Fj=>(Io f RX Fj e).bind λ RW=>cond (RW=0) ((C3 8).bind λ OV=>some (OV,b)) (cond (b.length+1<10000000) (some ((⟨1,(i64.wrap ((((b++[(⟨0,false,e,0,0,0,false,false,0,0,[],0,0⟩:KP)]).length:Nat):Int) - 1))⟩:OU),(b++[(⟨0,false,e,0,0,0,false,false,0,0,[],0,0⟩:KP)]))) none)))) ((C3 3).bind λ m=>some (m,b)))
theorem Afx{o f g b e i p r}(a:Pa o f g b e i p=some r):
   Rq 170 [.agg o.c,.ptr 1000000 0,.agg p.c] [(1000000,.box [sD (Dn f),sD (CT g),rD 1000001 b,rD 1000002 e,rD 1000003 i]),(1000001,.arr 3 1 (CT b)),(1000002,.arr 229 5 (DF e)),(1000003,.arr 171 13 (Ed i))] [(1000000,.box [sD (Dn f),sD (CT g),rD 1000001 b,rD 1000002 e,rD 1000003 r.2]),(1000001,.arr 3 1 (CT b)),(1000002,.arr 229 5 (DF e)),(1000003,.arr 171 13 (Ed r.2))] (.agg r.1.c):=by
 refine EA func170 Az6 ?_;unfold Pa at a;refine Ec a K1 λ _ a=>?_;obtain ⟨_,a⟩ | ⟨_,a⟩:=cE a
 . obtain ⟨_,a,_⟩:=jE Ex a;obtain ⟨_,a⟩ | ⟨_,a⟩:=cE a
   . refine Ec a Dg λ _ a=>?_;exact zO a
   refine Ec a Akb ?_;rintro ⟨_,_⟩ a;obtain ⟨⟨_,_,_⟩,k,a⟩:=bE a;refine A ?_;refine CcB (HS k) ?_;obtain ⟨_,a⟩ | ⟨_,a⟩:=cE a
   . obtain ⟨_,a⟩ | ⟨_,a⟩:=cE a
     . refine Hx [0,10,20,30,40,60,70,80,90,110,52,102,122,130] ?_;obtain ⟨_,l,a⟩:=bE a;refine A ?_;refine Am7 rfl rfl (FN l) A4 ?_;rintro q r ⟨rfl,rfl⟩;refine ⟨_,_,_,rfl,Zl _,rfl,?_⟩;obtain ⟨_,m,a⟩:=bE a;refine A ?_;refine Am7 rfl rfl (Vm m) A4 ?_;rintro q r ⟨rfl,rfl⟩;refine ⟨_,_,_,rfl,Ais _,rfl,?_⟩;obtain ⟨_,n,a⟩:=bE a;refine A ?_;refine GhB (PE n) ?_;obtain ⟨_,a⟩ | ⟨_,a⟩:=cE a
       . obtain ⟨j,a⟩:=gE a;refine He j ?_;exact zO a
       refine Ec a Dg λ _ a=>?_;exact zO a
     refine Ec a Dg λ _ a=>?_;exact zO a
   refine Ec a Dg λ _ a=>?_;exact zO a
 refine Ec a Dg λ _ a=>?_;exact zO a
def KW(g:Ad)(i:Aa)(j:Aa)(a:Ao)(k:Ag)(b:Cm4):Option (OU×Ao):=
 cond (b.n<0) ((C3 3).bind λ Jb=>some (Jb,a)) (cond ((a.length:Int)<=b.n) ((C3 3).bind λ Ju=>some (Ju,a)) ((CU a b.n).bind λ e=>cond (3<=e.state) ((C3 11).bind λ Ir=>some (Ir,a)) ((C3 1).bind λ f=>some (f,(a.set b.n.toNat {e with state:=4})))))
theorem YR{f g b i e j r}(a:KW f g b i e j=some r):
   Rq 167 [.ptr 1000000 0,.agg j.c] [(1000000,.box [sD (Dn f),sD (CT g),rD 1000001 b,rD 1000002 i,rD 1000003 e]),(1000001,.arr 3 1 (CT b)),(1000002,.arr 229 5 (DF i)),(1000003,.arr 171 13 (Ed e))] [(1000000,.box [sD (Dn f),sD (CT g),rD 1000001 b,rD 1000002 r.2,rD 1000003 e]),(1000001,.arr 3 1 (CT b)),(1000002,.arr 229 5 (DF r.2)),(1000003,.arr 171 13 (Ed e))] (.agg r.1.c):=by
 refine EA func167 Az9 ?_;unfold KW at a;refine Dd [0,0,0,0,0,0,0,0,0,0,0,0,0] ?_;obtain ⟨_,a⟩ | ⟨_,a⟩:=cE a
 . obtain ⟨_,a⟩ | ⟨_,a⟩:=cE a
   . refine Dd [0,0,0,0,0,0,0,0,0,0] ?_;obtain ⟨_,a,_⟩:=jE EG a;obtain ⟨_,a⟩ | ⟨_,a⟩:=cE a
     . refine Dd [0,0,0,0,0,0,0,0,3] ?_;refine Ec a Dg λ _ a=>?_;exact zO a
     refine Ec a Dg λ _ a=>?_;exact zO a
   refine Ec a Dg λ _ a=>?_;exact zO a
 refine Ec a Dg λ _ a=>?_;exact zO a
def Ns(f:Nt)(m:Ad)(n:Aa)(o:Aa)(e:Ao)(q:Ag)(j:Cm4):Option (OU×Ao):=
 cond (j.a=j.b) ((C3 0).bind λ l=>some (l,e)) ((FR f j.a).bind λ g=>(FR f j.b).bind λ i=>cond (g<0) ((C3 3).bind λ Mu=>some (Mu,e)) (cond (i<0) ((C3 3).bind λ k=>some (k,e)) ((CU f.CV g).bind λ p=>cond p.Fw ((C3 3).bind λ KO=>some (KO,e)) ((CU f.CV i).bind λ Lq=>cond Lq.Fw ((C3 3).bind λ WS=>some (WS,e)) ((E0 (⟨m,n,o⟩:Me)).bind λ RY=>(FP f RY g).bind λ RX=>cond RX ((FP f RY i).bind λ GA=>cond GA ((HQ e).bind λ Mv=>cond (f.cq<=Mv) ((C3 2).bind λ Sd=>some (Sd,e)) (cond ((e.length:Int)=32) ((C3 2).bind λ NH=>some (NH,e)) (cond (e.length+1<10000000) (some ((⟨1,(i64.wrap ((((e++[(⟨g,i,0,(-1),0⟩:Tsk)]).length:Nat):Int) - 1))⟩:OU),(e++[(⟨g,i,0,(-1),0⟩:Tsk)]))) none))) ((C3 4).bind λ OV=>some (OV,e))) ((C3 4).bind λ P1=>some (P1,e)))))))
theorem Abr{o f g b i e p r}(a:Ns o f g b i e p=some r):
   Rq 166 [.agg o.c,.ptr 1000000 0,.agg p.c] [(1000000,.box [sD (Dn f),sD (CT g),rD 1000001 b,rD 1000002 i,rD 1000003 e]),(1000001,.arr 3 1 (CT b)),(1000002,.arr 229 5 (DF i)),(1000003,.arr 171 13 (Ed e))] [(1000000,.box [sD (Dn f),sD (CT g),rD 1000001 b,rD 1000002 r.2,rD 1000003 e]),(1000001,.arr 3 1 (CT b)),(1000002,.arr 229 5 (DF r.2)),(1000003,.arr 171 13 (Ed e))] (.agg r.1.c):=by
 refine EA func166 Aza ?_;unfold Ns at a;obtain ⟨_,a⟩ | ⟨_,a⟩:=cE a
 . refine Hx [0,10,20,40,50,60,32,72,80,90] ?_;refine FO a K1 λ _ a=>?_;refine FO a K1 λ _ a=>?_;obtain ⟨_,a⟩ | ⟨_,a⟩:=cE a
   . obtain ⟨_,a⟩ | ⟨_,a⟩:=cE a
     . obtain ⟨_,a,_⟩:=jE Ex a;obtain ⟨_,a⟩ | ⟨_,a⟩:=cE a
       . obtain ⟨_,a,_⟩:=jE Ex a;obtain ⟨_,a⟩ | ⟨_,a⟩:=cE a
         . obtain ⟨_,k,a⟩:=bE a;refine A ?_;refine Aw2 rfl rfl (FN k) A4 ?_;rintro q r ⟨rfl,rfl⟩;refine ⟨_,_,_,rfl,Zl _,rfl,?_⟩;obtain ⟨_,l,a⟩:=bE a;refine A ?_;refine CcB (Jd l) ?_;obtain ⟨_,a⟩ | ⟨_,a⟩:=cE a
           . refine Ec a Dg λ _ a=>?_;exact zO a
           obtain ⟨_,m,a⟩:=bE a;refine A ?_;refine CcB (Jd m) ?_;obtain ⟨_,a⟩ | ⟨_,a⟩:=cE a
           . refine Ec a Dg λ _ a=>?_;exact zO a
           refine Hx [0,10,20,30,50,60,70,42,80,90,100,110,120,130,140,150,160] ?_;obtain ⟨_,n,a⟩:=bE a;refine A ?_;refine GhB (R1 n) ?_;obtain ⟨_,a⟩ | ⟨_,a⟩:=cE a
           . obtain ⟨_,a⟩ | ⟨_,a⟩:=cE a
             . obtain ⟨j,a⟩:=gE a;refine He j ?_;exact zO a
             refine Ec a Dg λ _ a=>?_;exact zO a
           refine Ec a Dg λ _ a=>?_;exact zO a
         refine Ec a Dg λ _ a=>?_;exact zO a
       refine Ec a Dg λ _ a=>?_;exact zO a
     refine Ec a Dg λ _ a=>?_;exact zO a
   refine Ec a Dg λ _ a=>?_;exact zO a
 refine Ec a Dg λ _ a=>?_;exact zO a
def Xb(e:Nt)(f:Ldg)(b:Cm4):Option (Ldg×OU):=
 (NK f).bind λ a=>(C3 0).bind λ g=>cond (b.kind=1) ((Ns e a.closed a.Dp a.C0 a.CS a.CO b).bind λ (x48,Ue)=>some (({a with CS:=Ue}:Ldg),x48)) (cond (b.kind=2) ((KW a.closed a.Dp a.C0 a.CS a.CO b).bind λ (Mu,NG)=>some (({a with CS:=NG}:Ldg),Mu)) (cond (b.kind=3) ((P7 e a.closed a.Dp a.C0 a.CS a.CO b).bind λ (x42,x43)=>some (({a with C0:=x43}:Ldg),x42)) (cond (b.kind=4) ((P8 e a.closed a.Dp a.C0 a.CS a.CO b).bind λ (Sd,H6,WS,QW)=>some ((⟨H6,WS,QW,a.CS,a.CO⟩:Ldg),Sd)) (cond (b.kind=5) ((Pa e a.closed a.Dp a.C0 a.CS a.CO b).bind λ (Nj,NH)=>some (({a with CO:=NH}:Ldg),Nj)) (cond (b.kind=6) ((KV a.closed a.Dp a.C0 a.CS a.CO b).bind λ (OS,LG)=>some (({a with CO:=LG}:Ldg),OS)) (cond (b.kind=7) ((C3 3).bind λ P1=>cond (0<=b.n) (cond (b.n<(a.CS.length:Int)) ((CU a.CS b.n).bind λ Nr=>some (a,(⟨12,Nr.state⟩:OU))) (some (a,P1))) (some (a,P1))) (cond (b.kind=8) ((Mi e a.closed a.Dp a.C0 a.CS a.CO b).bind λ I4=>some (a,I4)) (cond (b.kind=9) ((FA a.CO).bind λ (Hy,RY,OT)=>some (a,(⟨12,Hy⟩:OU))) (cond (b.kind=10) ((HQ a.CS).bind λ I8=>some (a,(⟨12,I8⟩:OU))) (some (a,g)))))))))))
theorem Awk{i k l r}(a:Xb i k l=some r):
   Rq 119 [.agg i.c,.agg k.c,.agg l.c] [] [] (.Em [.agg r.1.c,.agg r.2.c]):=by
 refine EA func119 Bad ?_;unfold Xb at a;refine Ec a Ak1 λ m a=>?_;refine Ec a Dg λ _ a=>?_;obtain ⟨_,a⟩ | ⟨_,a⟩:=cE a
 . obtain ⟨_,a⟩ | ⟨_,a⟩:=cE a
   . obtain ⟨_,a⟩ | ⟨_,a⟩:=cE a
     . obtain ⟨_,a⟩ | ⟨_,a⟩:=cE a
       . obtain ⟨_,a⟩ | ⟨_,a⟩:=cE a
         . obtain ⟨_,a⟩ | ⟨_,a⟩:=cE a
           . obtain ⟨_,a⟩ | ⟨_,a⟩:=cE a
             . obtain ⟨_,a⟩ | ⟨_,a⟩:=cE a
               . obtain ⟨_,a⟩ | ⟨_,a⟩:=cE a
                 . obtain ⟨_,a⟩ | ⟨_,a⟩:=cE a
                   . refine C5 [4,8] [0,0,2,3] ?_;exact zP a
                   obtain ⟨_,b,a⟩:=bE a;refine A ?_;refine CcB (R1 b) ?_;refine C5 [4,8] [0,0,2,3] ?_;exact zP a
                 obtain ⟨⟨_,_,_⟩,f,a⟩:=bE a;refine A ?_;refine CcB (HS f) ?_;refine C5 [4,8] [0,0,2,3] ?_;exact zP a
               refine Ec a Aao λ _ a=>?_;refine C5 [4,8] [0,0,2,3] ?_;exact zP a
             refine Ec a Dg λ _ a=>?_;obtain ⟨_,a⟩ | ⟨_,a⟩:=cE a
             . refine C5 [4,8] [0,0,2,3] ?_;exact zP a
             obtain ⟨_,a⟩ | ⟨_,a⟩:=cE a
             . refine C5 [4,8] [0,0,2,3] ?_;exact zP a
             obtain ⟨_,a,_⟩:=jE EG a;refine C5 [4,8] [0,0,2,3] ?_;exact zP a
           refine Ec a YQ ?_;rintro ⟨_,_⟩ a;refine C5 [4,8] [0,0,2,3] ?_;exact zP a
         refine Ec a Afx ?_;rintro ⟨_,_⟩ a;refine C5 [4,8] [0,0,2,3] ?_;exact zP a
       obtain ⟨⟨_,_,_,_⟩,g,a⟩:=bE a;refine A ?_;refine Nq (Wk.EC (id:=4) (j:=2) (q:=10013) (sz:=1) (e:=3) (es:=CT m.C0) rfl AY rfl) ?_;(try simp only[go_sem, *,BQ,BT]);refine YA (Amw g) ?_;refine C5 [4,8] [0,0,2,3] ?_;exact zP a
     refine Ec a Amv ?_;rintro ⟨_,_⟩ a;refine C5 [4,8] [0,0,2,3] ?_;exact zP a
   refine Ec a YR ?_;rintro ⟨_,_⟩ a;refine C5 [4,8] [0,0,2,3] ?_;exact zP a
 refine Ec a Abr ?_;rintro ⟨_,_⟩ a;refine C5 [4,8] [0,0,2,3] ?_;exact zP a
def Fb(f:Nt)(e:Ldg):Ag×Int->Option ((Ag×Int)⊕((Ag×Int)))
 | (My,M7)=>cond (M7<(e.CO.length:Int)) (cond (M7=(My.length:Int)) ((CU e.CO M7).bind λ Ue=>(CU f.CV Ue.Ev).bind λ a=>cond (My.length+1<10000000) ((CU (My++[(⟨0,false,Ue.Ev,(-1),(-1),0,false,false,(-1),0,[a.base],0,0⟩:KP)]) M7).bind λ b=>some (.inl (((My++[(⟨0,false,Ue.Ev,(-1),(-1),0,false,false,(-1),0,[a.base],0,0⟩:KP)]).set M7.toNat {b with Fc:=Ue.Fc}),(i64.wrap (M7+1))))) none) ((CU e.CO M7).bind λ KO=>(CU My M7).bind λ Mu=>some (.inl ((My.set M7.toNat {Mu with Fc:=KO.Fc}),(i64.wrap (M7+1)))))) (some (.inr (My,M7)))
def K5(e:Nt)(i:Lo)(f:Cm4):Option (Lo×OU×Ni×Int):=
 (u_r03_Valid_v e).bind λ j=>cond j ((IM i).bind λ b=>(NV i).bind λ k=>(Xb e k f).bind λ (x8,x9)=>(HE {e with CQ:=b.CQ,CR:=b.CR,closed:=b.closed,Dp:=b.Dp,C0:=b.C0,CO:=b.CO,CS:=b.CS,C7:=b.C7,DV:=[],CP:=[],FG:=[],DO:=[],DD:=[]} 1 x9.kind x9.n).bind λ G3=>cond (x9.kind=1) (cond (f.kind=6) ((CU b.CO f.n).bind λ Arj=>cond ((b.CS.length:Int)<(x8.CS.length:Int)) ((CU x8.CS (i64.wrap ((x8.CS.length:Int) - 1))).bind λ Ama=>cond (b.CS.length+1<10000000) ((C9 (Fb e x8) (b.CO,0)).bind (λ (Bxh,v264)=>(E9 e f.a).bind λ Bmq=>(OK {e with CQ:=b.CQ,CR:=b.CR,closed:=x8.closed,Dp:=x8.Dp,C0:=x8.C0,CO:=Bxh,CS:=b.CS++[Ama],C7:=b.C7,DV:=[],CP:=G3,FG:=[],DO:=[],DD:=[]} f x9 Bmq Arj).bind λ (Bvm,Bvl,Bmp,Bmo,Bvk,Bvj,Bmn,Bvi,Bvh,Bvg,Bj0)=>some ((⟨Bvm,Bvl,Bmp,Bmo,Bvk,Bvj,Bmn,Bvi⟩:Lo),x9,(⟨[],Bvh,[],Bvg,Bj0⟩:Ni),0))) none) ((C9 (Fb e x8) (b.CO,0)).bind (λ (v196,v197)=>(E9 e f.a).bind λ Bms=>(OK {e with CQ:=b.CQ,CR:=b.CR,closed:=x8.closed,Dp:=x8.Dp,C0:=x8.C0,CO:=v196,CS:=b.CS,C7:=b.C7,DV:=[],CP:=G3,FG:=[],DO:=[],DD:=[]} f x9 Bms Arj).bind λ (Bwc,Bwb,Aam,YI,Aw6,Bwa,Aw5,Bw9,Bw8,Bmr,Bw7)=>some ((⟨Bwc,Bwb,Aam,YI,Aw6,Bwa,Aw5,Bw9⟩:Lo),x9,(⟨[],Bw8,[],Bmr,Bw7⟩:Ni),0)))) (cond ((b.CS.length:Int)<(x8.CS.length:Int)) ((CU x8.CS (i64.wrap ((x8.CS.length:Int) - 1))).bind λ g=>cond (b.CS.length+1<10000000) ((C9 (Fb e x8) (b.CO,0)).bind (λ (Bnp,v130)=>(E9 e f.a).bind λ Bch=>(OK {e with CQ:=b.CQ,CR:=b.CR,closed:=x8.closed,Dp:=x8.Dp,C0:=x8.C0,CO:=Bnp,CS:=b.CS++[g],C7:=b.C7,DV:=[],CP:=G3,FG:=[],DO:=[],DD:=[]} f x9 Bch (⟨0,false,0,0,0,0,false,false,0,0,[],0,0⟩:KP)).bind λ (Afs,Amd,Afr,Bn5,Bcg,Bwt,P2,Bcf,VP,Ajq,Aw9)=>some ((⟨Afs,Amd,Afr,Bn5,Bcg,Bwt,P2,Bcf⟩:Lo),x9,(⟨[],VP,[],Ajq,Aw9⟩:Ni),0))) none) ((C9 (Fb e x8) (b.CO,0)).bind (λ (WW,YO)=>(E9 e f.a).bind λ Ud=>(OK {e with CQ:=b.CQ,CR:=b.CR,closed:=x8.closed,Dp:=x8.Dp,C0:=x8.C0,CO:=WW,CS:=b.CS,C7:=b.C7,DV:=[],CP:=G3,FG:=[],DO:=[],DD:=[]} f x9 Ud (⟨0,false,0,0,0,0,false,false,0,0,[],0,0⟩:KP)).bind λ (x66,RU,x68,U9,x70,x71,x72,Kd,x74,x75,x76)=>some ((⟨x66,RU,x68,U9,x70,x71,x72,Kd⟩:Lo),x9,(⟨[],x74,[],x75,x76⟩:Ni),0))))) (some (b,x9,(⟨[],G3,[],[],[]⟩:Ni),0))) (some ((⟨[],[],[],[],[],[],[],false⟩:Lo),(⟨0,0⟩:OU),(⟨[],[],[],[],[]⟩:Ni),20))
theorem Abu{b p s r}(a:K5 b p s=some r):
   Rq 77 [.agg b.c,.agg p.c,.agg s.c] [] [] (.Em [.agg r.1.c,.agg r.2.1.c,.agg r.2.2.1.c,iD r.2.2.2]):=by
 refine EA func77 Bfs ?_;unfold K5 at a;refine Ec a F8 λ _ a=>?_;refine cP a λ _ a=>?_;refine Dd [0,0,2,0,1,0] ?_;refine FO a K4 λ e a=>?_;refine Ey [3,4,5] [0,10,30,81,91,22,42,50,60,70,104,113] ?_;refine FO a Ajx λ _ a=>?_;refine FO a Awk ?_;rintro ⟨f,_⟩ a;obtain ⟨G3,m,a⟩:=bE a;refine A ?_;refine Nq ((Wk.EV (id:=26) (j:=16) (q:=526016) (sz:=5) 178 rfl rfl rfl AV).trans ((Wk.EV (id:=26) (j:=17) (q:=526017) (sz:=4) 242 rfl rfl rfl AV).trans ((Wk.EV (id:=26) (j:=18) (q:=526018) (sz:=2) 205 rfl rfl rfl AV).trans ((Wk.EV (id:=26) (j:=19) (q:=526019) (sz:=1) 3 rfl rfl rfl AV).trans (Wk.EV (id:=26) (j:=20) (q:=526020) (sz:=1) 3 rfl rfl rfl AV))))) ?_;try simp only[go_sem, *,BQ,BT]
 refine YA (Gl m) ?_;obtain ⟨_,a⟩ | ⟨_,a⟩:=cE a
 . refine C5 [12,26] [0,0,0,0,0,0,0,0,0,2,2,2,0] ?_;exact zP a
 obtain ⟨_,a⟩ | ⟨_,a⟩:=cE a
 . refine Dd [0,0,0,0,0,0,0,0,0,0] ?_;obtain ⟨_,a⟩ | ⟨_,a⟩:=cE a
   . obtain ⟨z,n,a⟩:=bE a;refine H2 n [3,5,6,7,8,10,11,12,13] [3,5,6,7,8,11,12,13,20024,526016,526017,526018,526019,526020] (λ q=>[(14,iD q.2)]) (λ q=>[(26,.box [sD (FM b.blocks),sD (DA b.next),sD (Gy b.CV),sD (CT b.C8),iD b.cq,iD b.ca,iD b.cd,iD b.cp,sD (CT e.CQ),sD (DA e.CR),sD (Dn f.closed),sD (CT f.Dp),sD (CT f.C0),rD 10024 q.1,rD 20024 e.CS,bD e.C7,.ref 526016 0 0 0,rD 526017 G3,.ref 526018 0 0 0,.ref 526019 0 0 0,.ref 526020 0 0 0]),(10024,.arr 171 13 (Ed q.1))]) ?_;rintro ⟨My,M7⟩ _ JQ Bk3;rw[Fb.eq_1] at JQ;obtain ⟨i,JQ⟩ | ⟨i,JQ⟩:=cK JQ
     . cases kR JQ;(try dsimp only at a);refine Ey [3,5,12,13] [0,10,20,30,40,50,70,62,83] ?_;refine FO a IA λ _ a=>?_;refine FO a Yp ?_;rintro ⟨_,_,_,_,_,_,_,_,_,_,_⟩ a;refine C5 [12,26] [0,0,0,0,0,0,0,0,0,2,2,2,0] ?_;exact zP a
     obtain ⟨_,JQ⟩ | ⟨_,JQ⟩:=cK JQ
     . refine Dd [0,0,0,0,0,0,0,0,0,0,0,0,0,0,3] ?_;obtain ⟨_,JQ,_⟩:=jK Db JQ;obtain ⟨_,JQ,_⟩:=jK Db JQ;exact AL (Bk3 _ _ (kI JQ))
     obtain ⟨_,JQ,_⟩:=jK Db JQ;refine C5 [3,26] [0,0,0,0,0,0,0,0,0,0,0,0,0,1,0,2,2,0,0,0,3] ?_;obtain ⟨_,JQ,_⟩:=jK Ex JQ;obtain ⟨k,JQ⟩:=gK JQ;refine He k ?_;refine Dd [0,0,0,0,0,0,0,0,0,0,0,0,0,0,3] ?_;obtain ⟨_,JQ,_⟩:=jK Db JQ;exact AL (Bk3 _ _ (kI JQ))
   refine C5 [11,26] [0,0,0,0,0,0,0,0,0,0,0,0,0,0,1,2,0,0,0,3] ?_;obtain ⟨g,a,_⟩:=jE EG a;obtain ⟨l,a⟩:=gE a;refine He l ?_;obtain ⟨B,o,a⟩:=bE a;refine H2 o [3,5,6,7,8,10,11,12,13] [3,5,6,7,8,11,12,13,20024,526016,526017,526018,526019,526020] (λ q=>[(14,iD q.2)]) (λ q=>[(26,.box [sD (FM b.blocks),sD (DA b.next),sD (Gy b.CV),sD (CT b.C8),iD b.cq,iD b.ca,iD b.cd,iD b.cp,sD (CT e.CQ),sD (DA e.CR),sD (Dn f.closed),sD (CT f.Dp),sD (CT f.C0),rD 10024 q.1,.ref 20024 0 ((e.CS++[g]).length) ((e.CS++[g]).length),bD e.C7,.ref 526016 0 0 0,rD 526017 G3,.ref 526018 0 0 0,.ref 526019 0 0 0,.ref 526020 0 0 0]),(10024,.arr 171 13 (Ed q.1))]) ?_;rintro ⟨E,H⟩ _ O2 Bs5;rw[Fb.eq_1] at O2;obtain ⟨_,O2⟩ | ⟨_,O2⟩:=cK O2
   . cases kR O2;(try dsimp only at a);refine Ey [3,5,12,13] [0,10,20,30,40,50,70,62,83] ?_;refine FO a IA λ _ a=>?_;refine FO a Yp ?_;rintro ⟨_,_,_,_,_,_,_,_,_,_,_⟩ a;refine C5 [12,26] [0,0,0,0,0,0,0,0,0,2,2,2,0] ?_;exact zP a
   obtain ⟨_,O2⟩ | ⟨_,O2⟩:=cK O2
   . refine Dd [0,0,0,0,0,0,0,0,0,0,0,0,0,0,3] ?_;obtain ⟨_,O2,_⟩:=jK Db O2;obtain ⟨_,O2,_⟩:=jK Db O2;exact AL (Bs5 _ _ (kI O2))
   obtain ⟨_,O2,_⟩:=jK Db O2;refine C5 [3,26] [0,0,0,0,0,0,0,0,0,0,0,0,0,1,0,2,2,0,0,0,3] ?_;obtain ⟨_,O2,_⟩:=jK Ex O2;obtain ⟨Cbt,O2⟩:=gK O2;refine He Cbt ?_;refine Dd [0,0,0,0,0,0,0,0,0,0,0,0,0,0,3] ?_;obtain ⟨_,O2,_⟩:=jK Db O2;exact AL (Bs5 _ _ (kI O2))
 refine Dd [0,0,0,0,0,0,0,0,0,3] ?_;obtain ⟨_,a,_⟩:=jE Db a;refine Dd [0,0,0,0,0,0,0,0,0,0] ?_;obtain ⟨_,a⟩ | ⟨_,a⟩:=cE a
 . obtain ⟨t,Caj,a⟩:=bE a;refine H2 Caj [3,5,6,7,8,10,11,12,13] [3,5,6,7,8,11,12,13,20024,526016,526017,526018,526019,526020] (λ q=>[(14,iD q.2)]) (λ q=>[(26,.box [sD (FM b.blocks),sD (DA b.next),sD (Gy b.CV),sD (CT b.C8),iD b.cq,iD b.ca,iD b.cd,iD b.cp,sD (CT e.CQ),sD (DA e.CR),sD (Dn f.closed),sD (CT f.Dp),sD (CT f.C0),rD 10024 q.1,rD 20024 e.CS,bD e.C7,.ref 526016 0 0 0,rD 526017 G3,.ref 526018 0 0 0,.ref 526019 0 0 0,.ref 526020 0 0 0]),(10024,.arr 171 13 (Ed q.1))]) ?_;rintro ⟨v,w⟩ _ JK Bm3;rw[Fb.eq_1] at JK;obtain ⟨_,JK⟩ | ⟨_,JK⟩:=cK JK
   . cases kR JK;(try dsimp only at a);refine Ey [3,5,12,13] [0,10,20,30,40,50,70,62,83] ?_;refine FO a IA λ _ a=>?_;refine FO a Yp ?_;rintro ⟨_,_,_,_,_,_,_,_,_,_,_⟩ a;refine C5 [12,26] [0,0,0,0,0,0,0,0,0,2,2,2,0] ?_;exact zP a
   obtain ⟨_,JK⟩ | ⟨_,JK⟩:=cK JK
   . refine Dd [0,0,0,0,0,0,0,0,0,0,0,0,0,0,3] ?_;obtain ⟨_,JK,_⟩:=jK Db JK;obtain ⟨_,JK,_⟩:=jK Db JK;exact AL (Bm3 _ _ (kI JK))
   obtain ⟨_,JK,_⟩:=jK Db JK;refine C5 [3,26] [0,0,0,0,0,0,0,0,0,0,0,0,0,1,0,2,2,0,0,0,3] ?_;obtain ⟨_,JK,_⟩:=jK Ex JK;obtain ⟨Cbh,JK⟩:=gK JK;refine He Cbh ?_;refine Dd [0,0,0,0,0,0,0,0,0,0,0,0,0,0,3] ?_;obtain ⟨_,JK,_⟩:=jK Db JK;exact AL (Bm3 _ _ (kI JK))
 refine C5 [11,26] [0,0,0,0,0,0,0,0,0,0,0,0,0,0,1,2,0,0,0,3] ?_;obtain ⟨Ama,a,_⟩:=jE EG a;obtain ⟨Cbg,a⟩:=gE a;refine He Cbg ?_;obtain ⟨u,Cai,a⟩:=bE a;refine H2 Cai [3,5,6,7,8,10,11,12,13] [3,5,6,7,8,11,12,13,20024,526016,526017,526018,526019,526020] (λ q=>[(14,iD q.2)]) (λ q=>[(26,.box [sD (FM b.blocks),sD (DA b.next),sD (Gy b.CV),sD (CT b.C8),iD b.cq,iD b.ca,iD b.cd,iD b.cp,sD (CT e.CQ),sD (DA e.CR),sD (Dn f.closed),sD (CT f.Dp),sD (CT f.C0),rD 10024 q.1,.ref 20024 0 ((e.CS++[Ama]).length) ((e.CS++[Ama]).length),bD e.C7,.ref 526016 0 0 0,rD 526017 G3,.ref 526018 0 0 0,.ref 526019 0 0 0,.ref 526020 0 0 0]),(10024,.arr 171 13 (Ed q.1))]) ?_;rintro ⟨x,y⟩ _ JJ Bm2;rw[Fb.eq_1] at JJ;obtain ⟨_,JJ⟩ | ⟨_,JJ⟩:=cK JJ
 . cases kR JJ;(try dsimp only at a);refine Ey [3,5,12,13] [0,10,20,30,40,50,70,62,83] ?_;refine FO a IA λ _ a=>?_;refine FO a Yp ?_;rintro ⟨_,_,_,_,_,_,_,_,_,_,_⟩ a;refine C5 [12,26] [0,0,0,0,0,0,0,0,0,2,2,2,0] ?_;exact zP a
 obtain ⟨_,JJ⟩ | ⟨_,JJ⟩:=cK JJ
 . refine Dd [0,0,0,0,0,0,0,0,0,0,0,0,0,0,3] ?_;obtain ⟨_,JJ,_⟩:=jK Db JJ;obtain ⟨_,JJ,_⟩:=jK Db JJ;exact AL (Bm2 _ _ (kI JJ))
 obtain ⟨_,JJ,_⟩:=jK Db JJ;refine C5 [3,26] [0,0,0,0,0,0,0,0,0,0,0,0,0,1,0,2,2,0,0,0,3] ?_;obtain ⟨_,JJ,_⟩:=jK Ex JJ;obtain ⟨Cbf,JJ⟩:=gK JJ;refine He Cbf ?_;refine Dd [0,0,0,0,0,0,0,0,0,0,0,0,0,0,3] ?_;obtain ⟨_,JJ,_⟩:=jK Db JJ;exact AL (Bm2 _ _ (kI JJ))
abbrev Aj:=List (List U7)
def Q2(a:O5):Aj×Int->Option ((Aj×Int)⊕((Aj×Int)))
 | (IW,My)=>cond (My<(a.up.length:Int)) ((CU a.up My).bind λ GA=>cond (GA.length<10000000) (cond (IW.length+1<10000000) (some (.inl ((IW++[GA]),(i64.wrap (My+1))))) none) none) (some (.inr (IW,My)))
def Q1(e:O5):Aj×Int->Option ((Aj×Int)⊕((Aj×Int)))
 | (b,a)=>cond (a<(e.down.length:Int)) ((CU e.down a).bind λ KR=>cond (KR.length<10000000) (cond (b.length+1<10000000) (some (.inl ((b++[KR]),(i64.wrap (a+1))))) none) none) (some (.inr (b,a)))
def NJ(a:O5):Option (O5):=
 (IM (⟨a.CQ,a.CR,a.closed,a.Dp,a.C0,a.CO,a.CS,a.C7⟩:Lo)).bind λ b=>cond (a.CX.length<10000000) (cond (a.CY.length<10000000) ((C9 (Q1 a) ([],0)).bind (λ (v39,v40)=>(C9 (Q2 a) ([],0)).bind (λ (v57,v58)=>some (⟨b.CQ,b.CR,b.closed,b.Dp,b.C0,b.CO,b.CS,b.C7,a.CX,a.CY,v39,v57⟩:O5)))) none) none
theorem Ajw{a r}(e:NJ a=some r):
   Rq 44 [.agg [sD (CT a.CQ),sD (DA a.CR),sD (Dn a.closed),sD (CT a.Dp),sD (CT a.C0),sD (Ed a.CO),sD (DF a.CS),bD a.C7,sD (Ek a.CX),sD (ED a.CY),sD (Da a.down),sD (Da a.up)]] [] [(0,.arr 171 13 (Ed r.CO)),(1,.arr 229 5 (DF r.CS)),(2,.arr 118 4 (Ek r.CX)),(3,.arr 121 5 (ED r.CY)),(4,.arr 134 1 (Da r.down)),(5,.arr 134 1 (Da r.up))] (.agg [sD (CT r.CQ),sD (DA r.CR),sD (Dn r.closed),sD (CT r.Dp),sD (CT r.C0),rD 0 r.CO,rD 1 r.CS,bD r.C7,rD 2 r.CX,rD 3 r.CY,rD 4 r.down,rD 5 r.up]):=by
 refine EA func44 Bgi ?_;unfold NJ at e;refine Ey [1] [0,10,30,40,60,70,101,22,52,82,90,113] ?_;refine FO e K4 λ b e=>?_;obtain ⟨o,e⟩:=gE e;refine He o ?_;obtain ⟨p,e⟩:=gE e;refine He p ?_;obtain ⟨s,l,e⟩:=bE e;refine A ?_;refine EX l (λ q=>⟨[(1,.ptr 1 0),(2,.ptr 2 0),(3,.ptr 3 0),(4,iD q.2)],[(1,.box [sD (CT a.CQ),sD (DA a.CR),sD (Dn a.closed),sD (CT a.Dp),sD (CT a.C0),sD (Ed a.CO),sD (DF a.CS),bD a.C7,sD (Ek a.CX),sD (ED a.CY),sD (Da a.down),sD (Da a.up)]),(2,.box [.cl [],.cl [],.cl [],.cl [],.cl [],.cl [],.cl [],bD false,.cl [],.cl [],.cl [],.cl []]),(3,.box [sD (CT b.CQ),sD (DA b.CR),sD (Dn b.closed),sD (CT b.Dp),sD (CT b.C0),rD 10008 b.CO,rD 20008 b.CS,bD b.C7,rD 11 a.CX,rD 14 a.CY,rD 32 q.1,.cl []]),(11,.arr 118 4 (Ek a.CX)),(14,.arr 121 5 (ED a.CY)),(32,.arr 134 1 (Da q.1)),(10008,.arr 171 13 (Ed b.CO)),(20008,.arr 229 5 (DF b.CS))],53⟩) ((Wk.EV (id:=3) (j:=10) (q:=32) (sz:=1) 134 rfl rfl rfl AV).trans WL) ?_;rintro ⟨n,u⟩ _ EZ MP;rw[Q1.eq_1] at EZ;obtain ⟨_,EZ⟩ | ⟨_,EZ⟩:=cK EZ
 . cases kR EZ;obtain ⟨t,m,e⟩:=bE e;refine A ?_;refine EX m (λ q=>⟨[(1,.ptr 1 0),(2,.ptr 2 0),(3,.ptr 3 0),(5,iD q.2)],[(1,.box [sD (CT a.CQ),sD (DA a.CR),sD (Dn a.closed),sD (CT a.Dp),sD (CT a.C0),sD (Ed a.CO),sD (DF a.CS),bD a.C7,sD (Ek a.CX),sD (ED a.CY),sD (Da a.down),sD (Da a.up)]),(2,.box [.cl [],.cl [],.cl [],.cl [],.cl [],.cl [],.cl [],bD false,.cl [],.cl [],.cl [],.cl []]),(3,.box [sD (CT b.CQ),sD (DA b.CR),sD (Dn b.closed),sD (CT b.Dp),sD (CT b.C0),rD 10008 b.CO,rD 20008 b.CS,bD b.C7,rD 11 a.CX,rD 14 a.CY,rD 32 n,rD 50 q.1]),(11,.arr 118 4 (Ek a.CX)),(14,.arr 121 5 (ED a.CY)),(32,.arr 134 1 (Da n)),(50,.arr 134 1 (Da q.1)),(10008,.arr 171 13 (Ed b.CO)),(20008,.arr 229 5 (DF b.CS))],53⟩) ((Wk.EV (id:=3) (j:=11) (q:=50) (sz:=1) 134 rfl rfl rfl AV).trans WL) ?_;rintro ⟨IW,My⟩ _ E4 At2;rw[Q2.eq_1] at E4;obtain ⟨_,E4⟩ | ⟨_,E4⟩:=cK E4
   . cases kR E4;exact zO e
   refine C5 [1,3] [0,0,0,0,0,0,0,2,2,2,0,3] ?_;obtain ⟨_,E4,_⟩:=jK Eo E4;obtain ⟨f,E4⟩:=gK E4;refine He f ?_;obtain ⟨g,E4⟩:=gK E4;refine He g ?_;exact AL (At2 _ _ (kI E4))
 refine C5 [1,3] [0,0,0,0,0,0,0,2,2,2,0,3] ?_;obtain ⟨_,EZ,_⟩:=jK Eo EZ;obtain ⟨i,EZ⟩:=gK EZ;refine He i ?_;obtain ⟨k,EZ⟩:=gK EZ;refine He k ?_;exact AL (MP _ _ (kI EZ))
theorem Ajv{a r}(b:NJ a=some r):
   Rq 44 [.agg [sD (CT a.CQ),sD (DA a.CR),sD (Dn a.closed),sD (CT a.Dp),sD (CT a.C0),sD (Ed a.CO),sD (DF a.CS),bD a.C7,sD (Ek a.CX),sD (ED a.CY),sD (Da a.down),sD (Da a.up)]] [] [(0,.arr 118 4 (Ek r.CX)),(1,.arr 121 5 (ED r.CY)),(2,.arr 134 1 (Da r.down)),(3,.arr 134 1 (Da r.up))] (.agg [sD (CT r.CQ),sD (DA r.CR),sD (Dn r.closed),sD (CT r.Dp),sD (CT r.C0),sD (Ed r.CO),sD (DF r.CS),bD r.C7,rD 0 r.CX,rD 1 r.CY,rD 2 r.down,rD 3 r.up]):=by
 refine C4.Bd4 (Ajw b) ?_;rintro h d ⟨rfl,rfl⟩;refine ⟨[(false,sD (CT r.CQ)),(false,sD (DA r.CR)),(false,sD (Dn r.closed)),(false,sD (CT r.Dp)),(false,sD (CT r.C0)),(true,rD 0 r.CO),(true,rD 1 r.CS),(false,bD r.C7),(false,rD 2 r.CX),(false,rD 3 r.CY),(false,rD 4 r.down),(false,rD 5 r.up)],rfl,?_⟩;simp only[go_sem,Afe,HM,bor]
def Atb(e:Int)(f:Aw):Aj×Int->Option ((Aj×Int)⊕((Aj×Int)))
 | (b,a)=>cond (a<(f.length:Int)) ((CU b e).bind λ G3=>(CU f a).bind λ I8=>(Kz G3 I8).bind λ OT=>some (.inl ((b.set e.toNat OT),(i64.wrap (a+1))))) (some (.inr (b,a)))
def Qx(a:GI)(b:Int)(e:Aw):Option Aj:=
 (C9 (Atb b e) (a.up,0)).bind (λ (v21,Mx)=>some v21)
theorem Bki{a e f r}(b:Qx a e f=some r):
   Rq 81 [.ptr 1000000 0,iD e,sD (Eu f)] (GI.h2 a) (GI.h2 ({a with up:=r})) (.Em []):=by
 refine EA func81 Ap0 ?_;unfold Qx at b;obtain ⟨i,g,b⟩:=bE b;refine H2 g [0,1,2] [] (λ q=>[(6,iD q.2)]) (λ q=>GI.h2 ({a with up:=q.1})) ?_;rintro ⟨j,k⟩ _ EU Y9;rw[Atb.eq_1] at EU;obtain ⟨_,EU⟩ | ⟨_,EU⟩:=cK EU
 . cases kR EU;exact zO b
 refine C5 [1000000,1000003] [0,0,0,0,0,0,0,0,0,0,0,0,0,0,0,0,0,0,2,0,3] ?_;obtain ⟨_,EU,_⟩:=jK Eo EU;obtain ⟨_,EU,_⟩:=jK Oz EU;refine Sc EU Pf λ _ EU=>?_;exact AL (Y9 _ _ (kI EU))
def PS(a:GI)(b:Int)(e:Int)(f:Int):Option Ak:=
 cond (a.Hi.length+1<10000000) (some (a.Hi++[(⟨0,b,e,f⟩:Ety)])) none
theorem Aow{b e f g r}(a:PS b e f g=some r):
   Rq 88 [.ptr 1000000 0,iD e,iD f,iD g] (GI.h2 b) (GI.h2 ({b with Hi:=r})) (.Em []):=by
 refine EA func88 Aoz ?_;unfold PS at a;obtain ⟨i,a⟩:=gE a;refine He i ?_;exact zO a
def NS(b:Nt)(a:Ax)(e:Int)(f:Int)(g:Int):Option (Ax×Bool):=
 (Xo b a e f g).bind λ (x1,x2)=>cond (x2=0) (some (x1,true)) (some (a,false))
theorem VU{b e f g i r}(a:NS b e f g i=some r):
   Rq 99 [.agg b.c,sD (Ek e),iD f,iD g,iD i] [] [] (.Em [sD (Ek r.1),bD r.2]):=by
 refine EA func99 Bf8 ?_;unfold NS at a;refine Ec a Awm ?_;rintro ⟨_,_⟩ a;refine cP a λ _ a=>?_;exact zP a
def Im:Option (WR):=
 some (⟨0,(-1),false,0,0⟩:WR)
theorem Pz{r}(a:Im=some r):
   Rq 40 [] [] [] (.agg r.c):=by
 refine EA func40 Bgm ?_;unfold Im at a;exact zP a
def Ai9(b:GI)(f:Ni):Ax×Int->Option ((Ax×Int)⊕((Ax×Int)))
 | (e,a)=>cond (a<(f.DD.length:Int)) ((CU f.DD a).bind λ Va=>(NS (⟨b.blocks,b.next,b.CV,b.C8,b.cq,b.ca,b.cd,b.cp⟩:Nt) e Va 5 0).bind λ (VO,x57)=>some (.inl (VO,(i64.wrap (a+1))))) (some (.inr (e,a)))
def Ai8(e:Ni):Aj×Int->Option ((Aj×Int)⊕((Aj×Int)))
 | (Mw,QX)=>cond (QX<(e.DV.length:Int)) ((CU e.DV QX).bind λ a=>(CU Mw a.CZ).bind λ b=>(Kz b a).bind λ U9=>some (.inl ((Mw.set a.CZ.toNat U9),(i64.wrap (QX+1))))) (some (.inr (Mw,QX)))
abbrev Az:=List WR
def Ai7(b:GI)(j:Ni):Az×Aj×Aj×Ak×Ax×Int->Option ((Az×Aj×Aj×Ak×Ax×Int)⊕((Az×Aj×Aj×Ak×Ax×Int)))
 | (e,f,Mx,O8,g,Ls)=>cond (Ls<(j.FG.length:Int)) ((CU j.FG Ls).bind λ a=>(NS (⟨b.blocks,b.next,b.CV,b.C8,b.cq,b.ca,b.cd,b.cp⟩:Nt) g a.CZ 0 a.cell).bind λ (x96,Sv)=>Option.bind Im λ i=>(CU e a.CZ).bind λ Se=>(CU f a.CZ).bind λ Aft=>(CU Mx a.CZ).bind λ Amh=>(PS {b with CX:=x96,CY:=e.set a.CZ.toNat i,down:=f.set a.CZ.toNat [],up:=Mx.set a.CZ.toNat [],Hi:=O8} 17 a.CZ a.cell).bind λ WT=>some (.inl ((e.set a.CZ.toNat i),(f.set a.CZ.toNat []),(Mx.set a.CZ.toNat []),WT,x96,(i64.wrap (Ls+1))))) (some (.inr (e,f,Mx,O8,g,Ls)))
def Ai6(a:GI)(e:Ni):Ak×Ax×Int->Option ((Ak×Ax×Int)⊕((Ak×Ax×Int)))
 | (f,g,b)=>cond (b<(e.DO.length:Int)) ((CU e.DO b).bind λ Bqw=>(NS (⟨a.blocks,a.next,a.CV,a.C8,a.cq,a.ca,a.cd,a.cp⟩:Nt) g Bqw 6 0).bind λ (Aw7,x187)=>(PS {a with CX:=Aw7,Hi:=f} 18 Bqw 0).bind λ Bmt=>some (.inl (Bmt,Aw7,(i64.wrap (b+1))))) (some (.inr (f,g,b)))
def GX(a:GI)(b:Ni):Option (Ax×Az×Aj×Aj×Ak):=
 cond (a.Hi.length+b.CP.length<10000000) ((C9 (Ai6 a b) ((a.Hi++b.CP),a.CX,0)).bind (λ (Bxl,Bxk,v193)=>(C9 (Ai7 a b) (a.CY,a.down,a.up,Bxl,Bxk,0)).bind (λ (Bxg,Bxf,Bxe,Bxd,Bxc,v301)=>(C9 (Ai8 b) (Bxf,0)).bind (λ (Bxa,v342)=>(C9 (Ai9 a b) (Bxc,0)).bind (λ (Bx9,v361)=>some (Bx9,Bxg,Bxa,Bxe,Bxd)))))) none
theorem HW{b m r}(a:GX b m=some r):
   Rq 48 [.ptr 1000000 0,.agg m.c] (GI.h2 b) (GI.h2 ({b with CX:=r.1,CY:=r.2.1,down:=r.2.2.1,up:=r.2.2.2.1,Hi:=r.2.2.2.2})) (.Em []):=by
 refine EA func48 Bge ?_;unfold GX at a;refine C5 [3,1000000] [0,0,0,0,0,0,0,2,0,0,3] ?_;obtain ⟨n,a⟩:=gE a;refine He n ?_;obtain ⟨o,f,a⟩:=bE a;refine H2 f [0,3] [3] (λ q=>[(4,iD q.2.2)]) (λ q=>GI.h2 ({b with CX:=q.2.1,Hi:=q.1})) ?_;rintro ⟨x,y,z⟩ _ FD k;rw[Ai6.eq_1] at FD;obtain ⟨_,FD⟩ | ⟨_,FD⟩:=cK FD
 . cases kR FD;obtain ⟨p,g,a⟩:=bE a;refine H2 g [0,3] [3] (λ q=>[(5,iD q.2.2.2.2.2)]) (λ q=>GI.h2 ({b with CX:=q.2.2.2.2.1,CY:=q.1,down:=q.2.1,up:=q.2.2.1,Hi:=q.2.2.2.1})) ?_;rintro ⟨e,u,Mx,O8,l,Ls⟩ _ EW Agc;rw[Ai7.eq_1] at EW;obtain ⟨_,EW⟩ | ⟨_,EW⟩:=cK EW
   . cases kR EW;obtain ⟨s,i,a⟩:=bE a;refine H2 i [0,3] [3] (λ q=>[(7,iD q.2)]) (λ q=>GI.h2 ({b with CX:=l,CY:=e,down:=q.1,up:=Mx,Hi:=O8})) ?_;rintro ⟨Mw,QX⟩ _ D6 Aaw;rw[Ai8.eq_1] at D6;obtain ⟨_,D6⟩ | ⟨_,D6⟩:=cK D6
     . cases kR D6;obtain ⟨t,j,a⟩:=bE a;refine H2 j [0,3] [3] (λ q=>[(9,iD q.2)]) (λ q=>GI.h2 ({b with CX:=q.1,CY:=e,down:=Mw,up:=Mx,Hi:=O8})) ?_;rintro ⟨v,w⟩ _ Agh Bz2;rw[Ai9.eq_1] at Agh;obtain ⟨_,Agh⟩ | ⟨_,Agh⟩:=cK Agh
       . cases kR Agh;exact zO a
       refine C5 [3,1000000] [0,0,0,0,0,0,0,0,0,0,0,0,0,0,0,2,0,0,0,0,0,0,4] ?_;obtain ⟨_,Agh,_⟩:=jK Dl Agh;refine Sc Agh VU ?_;rintro ⟨_,_⟩ Agh;exact AL (Bz2 _ _ (kI Agh))
     obtain ⟨_,D6,_⟩:=jK Oz D6;refine C5 [3,1000000,1000002] [0,0,0,0,0,0,0,0,0,0,0,0,0,0,0,0,0,0,0,2,0,3] ?_;obtain ⟨_,D6,_⟩:=jK Eo D6;refine Sc D6 Pf λ _ D6=>?_;exact AL (Aaw _ _ (kI D6))
   obtain ⟨_,EW,_⟩:=jK Apm EW;refine C5 [6,1000000] [0,0,0,0,0,0,0,0,0,0,0,0,0,0,2,0,0,0,0,0,0,4] ?_;refine Sc EW VU ?_;rintro ⟨_,_⟩ EW;refine C5 [6,1000000,1000001] [0,0,0,0,0,0,0,2,0,3] ?_;refine Sc EW Pz λ _ EW=>?_;obtain ⟨_,EW,_⟩:=jK Lk EW;refine C5 [6,1000000,1000003] [0,0,0,0,0,0,0,0,0,0,0,0,0,0,2,2,0,3] ?_;obtain ⟨_,EW,_⟩:=jK Eo EW;obtain ⟨_,EW,_⟩:=jK Eo EW;refine Fy EW Aow λ _ EW=>?_;exact AL (Agc _ _ (kI EW))
 refine C5 [3,1000000] [0,0,0,0,0,0,0,0,0,0,0,0,0,0,0,2,0,0,0,0,0,0,4] ?_;obtain ⟨_,FD,_⟩:=jK Dl FD;refine Sc FD VU ?_;rintro ⟨_,_⟩ FD;refine Fy FD Aow λ _ FD=>?_;exact AL (k _ _ (kI FD))
def Mj(e:Ac):Option Cm4:=some ⟨(Alw e).kind,(Alw e).a,(Alw e).b,(Alw e).n⟩
theorem Aap{a r}(b:Mj a=some r):C4 prog 78 [.p (.str a)] [] λ h d=>h=[]/\d= .agg r.c:=by
 unfold Mj at b;obtain rfl:=Bf b;exact Bky a
def TC(b:Lo):Ax×Az×Aj×Aj->Option ((Ax×Az×Aj×Aj)⊕((Ax×Az×Aj×Aj)))
 | (a,I9,F4,Hu)=>cond ((a.length:Int)<(b.CO.length:Int)) (cond (a.length+1<10000000) (Option.bind Im λ RV=>cond (I9.length+1<10000000) (cond (F4.length+1<10000000) (cond (Hu.length+1<10000000) (some (.inl ((a++[(⟨(-1),(-1),false,false⟩:O6)]),(I9++[RV]),(F4++[[]]),(Hu++[[]])))) none) none) none) none) (some (.inr (a,I9,F4,Hu)))
def L5(a:GI)(b:Ac):Option (OU×Aa×Ab×Ad×Aa×Aa×Ag×Ao×Bool×Ax×Az×Aj×Aj×Ak):=
 (Mj b).bind λ e=>(K5 (⟨a.blocks,a.next,a.CV,a.C8,a.cq,a.ca,a.cd,a.cp⟩:Nt) (⟨a.CQ,a.CR,a.closed,a.Dp,a.C0,a.CO,a.CS,a.C7⟩:Lo) e).bind λ (x3,x4,x5,x6)=>(C9 (TC x3) (a.CX,a.CY,a.down,a.up)).bind (λ (Mw,QX,v36,v37)=>(GX {a with CQ:=x3.CQ,CR:=x3.CR,closed:=x3.closed,Dp:=x3.Dp,C0:=x3.C0,CO:=x3.CO,CS:=x3.CS,C7:=x3.C7,CX:=Mw,CY:=QX,down:=v36,up:=v37} x5).bind λ (H6,WS,QW,KO,x42)=>some (x4,x3.CQ,x3.CR,x3.closed,x3.Dp,x3.C0,x3.CO,x3.CS,x3.C7,H6,WS,QW,KO,x42))
theorem Agk{a s r}(b:L5 a s=some r):
   C4 prog 45 [.ptr 1000000 0,.p (.str s)] (GI.h a) λ h d=>(h=(GI.h ({a with CQ:=r.2.1,CR:=r.2.2.1,closed:=r.2.2.2.1,Dp:=r.2.2.2.2.1,C0:=r.2.2.2.2.2.1,CO:=r.2.2.2.2.2.2.1,CS:=r.2.2.2.2.2.2.2.1,C7:=r.2.2.2.2.2.2.2.2.1,CX:=r.2.2.2.2.2.2.2.2.2.1,CY:=r.2.2.2.2.2.2.2.2.2.2.1,down:=r.2.2.2.2.2.2.2.2.2.2.2.1,up:=r.2.2.2.2.2.2.2.2.2.2.2.2.1,Hi:=r.2.2.2.2.2.2.2.2.2.2.2.2.2}))∨(∃es,h=[(1000000,.box [sD (FM a.blocks),sD (DA a.next),sD (Gy a.CV),sD (CT a.C8),iD a.cq,iD a.ca,iD a.cd,iD a.cp,sD (CT r.2.1),sD (DA r.2.2.1),sD (Dn r.2.2.2.1),sD (CT r.2.2.2.2.1),sD (CT r.2.2.2.2.2.1),sD (Ed r.2.2.2.2.2.2.1),sD (DF r.2.2.2.2.2.2.2.1),bD r.2.2.2.2.2.2.2.2.1,sD (Ek r.2.2.2.2.2.2.2.2.2.1),rD 1000002 r.2.2.2.2.2.2.2.2.2.2.1,rD 1000003 r.2.2.2.2.2.2.2.2.2.2.2.1,rD 1000004 r.2.2.2.2.2.2.2.2.2.2.2.2.1,rD 1000005 r.2.2.2.2.2.2.2.2.2.2.2.2.2]),(1000001,.Om 4 es),(1000002,.arr 121 5 (ED r.2.2.2.2.2.2.2.2.2.2.1)),(1000003,.arr 134 1 (Da r.2.2.2.2.2.2.2.2.2.2.2.1)),(1000004,.arr 134 1 (Da r.2.2.2.2.2.2.2.2.2.2.2.2.1)),(1000005,.arr 242 4 (FL r.2.2.2.2.2.2.2.2.2.2.2.2.2))])∨(∃es,h=[(1000000,.box [sD (FM a.blocks),sD (DA a.next),sD (Gy a.CV),sD (CT a.C8),iD a.cq,iD a.ca,iD a.cd,iD a.cp,sD (CT r.2.1),sD (DA r.2.2.1),sD (Dn r.2.2.2.1),sD (CT r.2.2.2.2.1),sD (CT r.2.2.2.2.2.1),sD (Ed r.2.2.2.2.2.2.1),sD (DF r.2.2.2.2.2.2.2.1),bD r.2.2.2.2.2.2.2.2.1,sD (Ek r.2.2.2.2.2.2.2.2.2.1),rD 1000002 r.2.2.2.2.2.2.2.2.2.2.1,rD 1000003 r.2.2.2.2.2.2.2.2.2.2.2.1,rD 1000004 r.2.2.2.2.2.2.2.2.2.2.2.2.1,rD 1000005 r.2.2.2.2.2.2.2.2.2.2.2.2.2]),(1000001,.arr 118 4 es),(1000002,.arr 121 5 (ED r.2.2.2.2.2.2.2.2.2.2.1)),(1000003,.arr 134 1 (Da r.2.2.2.2.2.2.2.2.2.2.2.1)),(1000004,.arr 134 1 (Da r.2.2.2.2.2.2.2.2.2.2.2.2.1)),(1000005,.arr 242 4 (FL r.2.2.2.2.2.2.2.2.2.2.2.2.2))]))/\d= .agg r.1.c:=by
 refine EA func45 Bgh ?_;unfold L5 at b;refine Ey [1000000] [0,10,20,30,40,50,60,70,80,90,171,181,191,102,112,120,130,140,150,160,202,212,222,230] ?_;refine FO b Aap λ _ b=>?_;refine FO b Abu ?_;rintro ⟨f,_,_,_⟩ b;obtain ⟨t,m,b⟩:=bE b;refine H2 m [0,4,5,6,7] [4,5,6,7] (λ _=>[]) (λ q=>GI.h ({a with CQ:=f.CQ,CR:=f.CR,closed:=f.closed,Dp:=f.Dp,C0:=f.C0,CO:=f.CO,CS:=f.CS,C7:=f.C7,CX:=q.1,CY:=q.2.1,down:=q.2.2.1,up:=q.2.2.2})) ?_;rintro ⟨o,I9,F4,Hu⟩ _ DQ XE;rw[TC.eq_1] at DQ;refine Dd [0,0,0,0,0,0,0,0,0,0] ?_;obtain ⟨_,DQ⟩ | ⟨_,DQ⟩:=cK DQ
 . cases kR DQ;obtain ⟨⟨_,_,_,_,_⟩,n,b⟩:=bE b;refine A ?_;refine Nq (Wk.EC (id:=1000000) (j:=16) (q:=1000001) (sz:=4) (e:=118) (es:=Ek o) rfl AY rfl) ?_;(try simp only[go_sem, *,BQ,BT]);refine YA (HW n) ?_;exact zS b
 obtain ⟨g,DQ⟩:=gK DQ;refine He g ?_;refine C5 [1000000] [0,0,0,0,0,0,2,1,2,0,0,0,3] ?_;refine Sc DQ Pz λ _ DQ=>?_;obtain ⟨i,DQ⟩:=gK DQ;refine He i ?_;refine Ey [1000000] [0,10,20,30,40,50,60,90,100,110,120,130,71,141,82,152,160,170,180,194,204,214,224,234] ?_;obtain ⟨k,DQ⟩:=gK DQ;refine He k ?_;obtain ⟨l,DQ⟩:=gK DQ;refine He l ?_;exact AL (XE _ _ (kI DQ))
theorem Ale{a b r}(f:L5 a b=some r):
   C4 prog 45 [.ptr 1000000 0,.p (.str b)] (GI.h a) λ h d=>∃m,h=[(1000000,.box [sD (FM a.blocks),sD (DA a.next),sD (Gy a.CV),sD (CT a.C8),iD a.cq,iD a.ca,iD a.cd,iD a.cp,sD (CT r.2.1),sD (DA r.2.2.1),sD (Dn r.2.2.2.1),sD (CT r.2.2.2.2.1),sD (CT r.2.2.2.2.2.1),sD (Ed r.2.2.2.2.2.2.1),sD (DF r.2.2.2.2.2.2.2.1),bD r.2.2.2.2.2.2.2.2.1,sD (Ek r.2.2.2.2.2.2.2.2.2.1),rD 1000002 r.2.2.2.2.2.2.2.2.2.2.1,rD 1000003 r.2.2.2.2.2.2.2.2.2.2.2.1,rD 1000004 r.2.2.2.2.2.2.2.2.2.2.2.2.1,rD 1000005 r.2.2.2.2.2.2.2.2.2.2.2.2.2]),(1000001,.Ik (Gm (.arr 4 m))),(1000002,.arr 121 5 (ED r.2.2.2.2.2.2.2.2.2.2.1)),(1000003,.arr 134 1 (Da r.2.2.2.2.2.2.2.2.2.2.2.1)),(1000004,.arr 134 1 (Da r.2.2.2.2.2.2.2.2.2.2.2.2.1)),(1000005,.arr 242 4 (FL r.2.2.2.2.2.2.2.2.2.2.2.2.2))]/\d= .agg r.1.c:=by
 refine C4.wk (Agk f) ?_;rintro h d ⟨rfl | ⟨es,rfl⟩ | ⟨es,rfl⟩,rfl⟩
 . exact ⟨_,(Wk.EC (id:=1000000) (j:=16) (q:=1000001) (sz:=4) (e:=118) (es:=Ek r.2.2.2.2.2.2.2.2.2.1) rfl AY rfl).trans (Wk.Abi (q:=1000001) rfl),_,rfl,rfl⟩
 . exact ⟨_,Wk.Abi (q:=1000001) rfl,_,rfl,rfl⟩
 . exact ⟨_,Wk.Avo (q:=1000001) rfl,_,rfl,rfl⟩
def O9(e:Int)(f:Aw):Aj×Int->Option ((Aj×Int)⊕((Aj×Int)))
 | (b,a)=>cond (a<(f.length:Int)) ((CU b e).bind λ G3=>(CU f a).bind λ I8=>(Kz G3 I8).bind λ OT=>some (.inl ((b.set e.toNat OT),(i64.wrap (a+1))))) (some (.inr (b,a)))
def D8(a:GI)(b:Int)(e:Aw):Option Aj:=
 (C9 (O9 b e) (a.up,0)).bind (λ (v21,Mx)=>some v21)
theorem D7{a e f r}(b:D8 a e f=some r):
   Rq 81 [.ptr 1000000 0,iD e,sD (Eu f)] (GI.h a) (GI.h ({a with up:=r})) (.Em []):=by
 refine EA func81 Ap0 ?_;unfold D8 at b;obtain ⟨i,g,b⟩:=bE b;refine H2 g [0,1,2] [] (λ q=>[(6,iD q.2)]) (λ q=>GI.h ({a with up:=q.1})) ?_;rintro ⟨j,k⟩ _ EU Y9;rw[O9.eq_1] at EU;obtain ⟨_,EU⟩ | ⟨_,EU⟩:=cK EU
 . cases kR EU;exact zO b
 refine C5 [1000000,1000004] [0,0,0,0,0,0,0,0,0,0,0,0,0,0,0,0,0,0,2,0,4] ?_;obtain ⟨_,EU,_⟩:=jK Eo EU;obtain ⟨_,EU,_⟩:=jK Oz EU;refine Sc EU Pf λ _ EU=>?_;exact AL (Y9 _ _ (kI EU))
def Fg(a:GI)(b:Int)(e:Int)(f:Int):Option Ak:=
 cond (a.Hi.length+1<10000000) (some (a.Hi++[(⟨0,b,e,f⟩:Ety)])) none
theorem F5{b e f g r}(a:Fg b e f g=some r):
   Rq 88 [.ptr 1000000 0,iD e,iD f,iD g] (GI.h b) (GI.h ({b with Hi:=r})) (.Em []):=by
 refine EA func88 Aoz ?_;unfold Fg at a;obtain ⟨i,a⟩:=gE a;refine He i ?_;exact zO a
def Qy(e:GI)(f:G9):Option (Aa×Ab×Ad×Aa×Aa×Ag×Ao×Bool×Ax×Az×Aj×Aj×Ak):=
 (CU e.CX f.a).bind λ g=>cond (g.cell=(-1)) (cond (f.kind=2) ((CU e.down f.a).bind λ Bmm=>(K9 Bmm f.b).bind λ (Bqs,Bml,Bv4)=>cond Bv4 (some (e.CQ,e.CR,e.closed,e.Dp,e.C0,e.CO,e.CS,e.C7,e.CX,e.CY,(e.down.set f.a.toNat Bml),e.up,e.Hi)) (some (e.CQ,e.CR,e.closed,e.Dp,e.C0,e.CO,e.CS,e.C7,e.CX,e.CY,e.down,e.up,e.Hi))) (cond (f.kind=3) ((CU e.up f.a).bind λ Bmn=>(K9 Bmn f.b).bind λ (Bj0,Bqt,Bvf)=>cond Bvf (cond (Bj0.CZ=f.a) ((LM (⟨e.blocks,e.next,e.CV,e.C8,e.cq,e.ca,e.cd,e.cp⟩:Nt) (⟨e.CQ,e.CR,e.closed,e.Dp,e.C0,e.CO,e.CS,e.C7⟩:Lo) Bj0).bind λ (UQ,Bve,x285)=>(GX {e with CQ:=UQ.CQ,CR:=UQ.CR,closed:=UQ.closed,Dp:=UQ.Dp,C0:=UQ.C0,CO:=UQ.CO,CS:=UQ.CS,C7:=UQ.C7,up:=e.up.set f.a.toNat Bqt} Bve).bind λ (Bvd,Bvc,Aw3,Bvb,Bva)=>some (UQ.CQ,UQ.CR,UQ.closed,UQ.Dp,UQ.C0,UQ.CO,UQ.CS,UQ.C7,Bvd,Bvc,Aw3,Bvb,Bva)) (some (e.CQ,e.CR,e.closed,e.Dp,e.C0,e.CO,e.CS,e.C7,e.CX,e.CY,e.down,(e.up.set f.a.toNat Bqt),e.Hi))) (some (e.CQ,e.CR,e.closed,e.Dp,e.C0,e.CO,e.CS,e.C7,e.CX,e.CY,e.down,e.up,e.Hi))) (cond (f.kind=4) ((CU e.down f.a).bind λ Bmq=>(KA Bmq f.b).bind λ (Bmp,Bmo)=>cond Bmo (some (e.CQ,e.CR,e.closed,e.Dp,e.C0,e.CO,e.CS,e.C7,e.CX,e.CY,(e.down.set f.a.toNat Bmp),e.up,e.Hi)) (some (e.CQ,e.CR,e.closed,e.Dp,e.C0,e.CO,e.CS,e.C7,e.CX,e.CY,e.down,e.up,e.Hi))) (cond (f.kind=5) ((CU e.up f.a).bind λ Bvp=>(KA Bvp f.b).bind λ (Bvo,Bvn)=>cond Bvn (some (e.CQ,e.CR,e.closed,e.Dp,e.C0,e.CO,e.CS,e.C7,e.CX,e.CY,e.down,(e.up.set f.a.toNat Bvo),e.Hi)) (some (e.CQ,e.CR,e.closed,e.Dp,e.C0,e.CO,e.CS,e.C7,e.CX,e.CY,e.down,e.up,e.Hi))) (cond (f.kind=6) ((CU e.down f.a).bind λ Bvs=>(ME Bvs f.b).bind λ (Bvr,Bvq)=>cond Bvq (some (e.CQ,e.CR,e.closed,e.Dp,e.C0,e.CO,e.CS,e.C7,e.CX,e.CY,(e.down.set f.a.toNat Bvr),e.up,e.Hi)) (some (e.CQ,e.CR,e.closed,e.Dp,e.C0,e.CO,e.CS,e.C7,e.CX,e.CY,e.down,e.up,e.Hi))) (cond (f.kind=7) ((CU e.up f.a).bind λ Bvv=>(ME Bvv f.b).bind λ (Bvu,Bvt)=>cond Bvt (some (e.CQ,e.CR,e.closed,e.Dp,e.C0,e.CO,e.CS,e.C7,e.CX,e.CY,e.down,(e.up.set f.a.toNat Bvu),e.Hi)) (some (e.CQ,e.CR,e.closed,e.Dp,e.C0,e.CO,e.CS,e.C7,e.CX,e.CY,e.down,e.up,e.Hi))) (cond (f.kind=8) ((LL (⟨e.blocks,e.next,e.CV,e.C8,e.cq,e.ca,e.cd,e.cp⟩:Nt) (⟨e.CQ,e.CR,e.closed,e.Dp,e.C0,e.CO,e.CS,e.C7⟩:Lo) f.a).bind λ (Bw1,x233)=>(GX e Bw1).bind λ (Bw0,Bvz,Bvy,Bvx,Bvw)=>some (e.CQ,e.CR,e.closed,e.Dp,e.C0,e.CO,e.CS,e.C7,Bw0,Bvz,Bvy,Bvx,Bvw)) (cond (f.kind=9) ((CU e.CY f.a).bind λ Bms=>(Jg (⟨e.blocks,e.next,e.CV,e.C8,e.cq,e.ca,e.cd,e.cp⟩:Nt) Bms f.a g).bind λ (Aam,YI,Aw6)=>(CU (e.CX.set f.a.toNat YI) f.a).bind λ Aw5=>cond (g.Ff=(-1)) (cond (Aw5.Ff=(-1)) ((D8 {e with CX:=e.CX.set f.a.toNat YI,CY:=e.CY.set f.a.toNat Aam} f.a Aw6).bind λ Bw2=>some (e.CQ,e.CR,e.closed,e.Dp,e.C0,e.CO,e.CS,e.C7,(e.CX.set f.a.toNat YI),(e.CY.set f.a.toNat Aam),e.down,Bw2,e.Hi)) ((Fg {e with CX:=e.CX.set f.a.toNat YI,CY:=e.CY.set f.a.toNat Aam} 14 f.a Aw5.Ff).bind λ Bqu=>(D8 {e with CX:=e.CX.set f.a.toNat YI,CY:=e.CY.set f.a.toNat Aam,Hi:=Bqu} f.a Aw6).bind λ Bw3=>some (e.CQ,e.CR,e.closed,e.Dp,e.C0,e.CO,e.CS,e.C7,(e.CX.set f.a.toNat YI),(e.CY.set f.a.toNat Aam),e.down,Bw3,Bqu))) (cond (Aw5.Ff=(-1)) ((Fg {e with CX:=e.CX.set f.a.toNat YI,CY:=e.CY.set f.a.toNat Aam} 15 f.a Aw5.cell).bind λ Bj1=>(D8 {e with CX:=e.CX.set f.a.toNat YI,CY:=e.CY.set f.a.toNat Aam,Hi:=Bj1} f.a Aw6).bind λ Bw5=>some (e.CQ,e.CR,e.closed,e.Dp,e.C0,e.CO,e.CS,e.C7,(e.CX.set f.a.toNat YI),(e.CY.set f.a.toNat Aam),e.down,Bw5,Bj1)) ((D8 {e with CX:=e.CX.set f.a.toNat YI,CY:=e.CY.set f.a.toNat Aam} f.a Aw6).bind λ Bw6=>some (e.CQ,e.CR,e.closed,e.Dp,e.C0,e.CO,e.CS,e.C7,(e.CX.set f.a.toNat YI),(e.CY.set f.a.toNat Aam),e.down,Bw6,e.Hi)))) (cond (f.kind=10) ((CU e.CY f.a).bind λ Bmu=>(N5 Bmu f.a g).bind λ (Bcb,Bca,Aw7)=>cond (0<(Aw7.length:Int)) ((Fg {e with CX:=e.CX.set f.a.toNat Bca,CY:=e.CY.set f.a.toNat Bcb} 16 f.a g.cell).bind λ Bqv=>(D8 {e with CX:=e.CX.set f.a.toNat Bca,CY:=e.CY.set f.a.toNat Bcb,Hi:=Bqv} f.a Aw7).bind λ Bwd=>some (e.CQ,e.CR,e.closed,e.Dp,e.C0,e.CO,e.CS,e.C7,(e.CX.set f.a.toNat Bca),(e.CY.set f.a.toNat Bcb),e.down,Bwd,Bqv)) ((D8 {e with CX:=e.CX.set f.a.toNat Bca,CY:=e.CY.set f.a.toNat Bcb} f.a Aw7).bind λ Bmt=>some (e.CQ,e.CR,e.closed,e.Dp,e.C0,e.CO,e.CS,e.C7,(e.CX.set f.a.toNat Bca),(e.CY.set f.a.toNat Bcb),e.down,Bmt,e.Hi))) (cond (f.kind=11) (some (e.CQ,e.CR,e.closed,e.Dp,e.C0,e.CO,e.CS,e.C7,e.CX,e.CY,e.down,e.up,e.Hi)) (some (e.CQ,e.CR,e.closed,e.Dp,e.C0,e.CO,e.CS,e.C7,e.CX,e.CY,e.down,e.up,e.Hi)))))))))))) (cond (f.kind=2) ((CU e.down f.a).bind λ Bcd=>(K9 Bcd f.b).bind λ (Bn2,Py,Arh)=>cond Arh (cond g.H5 (some (e.CQ,e.CR,e.closed,e.Dp,e.C0,e.CO,e.CS,e.C7,e.CX,e.CY,(e.down.set f.a.toNat Py),e.up,e.Hi)) ((CU e.CY f.a).bind λ Bwq=>(Qb Bwq f.a Bn2).bind λ (Amb,Bcc)=>(D8 {e with CY:=e.CY.set f.a.toNat Amb,down:=e.down.set f.a.toNat Py} f.a Bcc).bind λ Bn0=>some (e.CQ,e.CR,e.closed,e.Dp,e.C0,e.CO,e.CS,e.C7,e.CX,(e.CY.set f.a.toNat Amb),(e.down.set f.a.toNat Py),Bn0,e.Hi))) (some (e.CQ,e.CR,e.closed,e.Dp,e.C0,e.CO,e.CS,e.C7,e.CX,e.CY,e.down,e.up,e.Hi))) (cond (f.kind=3) ((CU e.up f.a).bind λ Ark=>(K9 Ark f.b).bind λ (Afs,Amd,Afr)=>cond Afr (cond (Afs.CZ=f.a) ((LM (⟨e.blocks,e.next,e.CV,e.C8,e.cq,e.ca,e.cd,e.cp⟩:Nt) (⟨e.CQ,e.CR,e.closed,e.Dp,e.C0,e.CO,e.CS,e.C7⟩:Lo) Afs).bind λ (P2,Bcf,VP)=>(GX {e with CQ:=P2.CQ,CR:=P2.CR,closed:=P2.closed,Dp:=P2.Dp,C0:=P2.C0,CO:=P2.CO,CS:=P2.CS,C7:=P2.C7,up:=e.up.set f.a.toNat Amd} Bcf).bind λ (Aw9,Aw8,Arj,Bn4,Bce)=>some (P2.CQ,P2.CR,P2.closed,P2.Dp,P2.C0,P2.CO,P2.CS,P2.C7,Aw9,Aw8,Arj,Bn4,Bce)) (some (e.CQ,e.CR,e.closed,e.Dp,e.C0,e.CO,e.CS,e.C7,e.CX,e.CY,e.down,(e.up.set f.a.toNat Amd),e.Hi))) (some (e.CQ,e.CR,e.closed,e.Dp,e.C0,e.CO,e.CS,e.C7,e.CX,e.CY,e.down,e.up,e.Hi))) (cond (f.kind=4) ((CU e.down f.a).bind λ Ame=>(KA Ame f.b).bind λ (Bwu,Bj2)=>cond Bj2 (some (e.CQ,e.CR,e.closed,e.Dp,e.C0,e.CO,e.CS,e.C7,e.CX,e.CY,(e.down.set f.a.toNat Bwu),e.up,e.Hi)) (some (e.CQ,e.CR,e.closed,e.Dp,e.C0,e.CO,e.CS,e.C7,e.CX,e.CY,e.down,e.up,e.Hi))) (cond (f.kind=5) ((CU e.up f.a).bind λ WT=>(KA WT f.b).bind λ (Bci,Bqz)=>cond Bqz (some (e.CQ,e.CR,e.closed,e.Dp,e.C0,e.CO,e.CS,e.C7,e.CX,e.CY,e.down,(e.up.set f.a.toNat Bci),e.Hi)) (some (e.CQ,e.CR,e.closed,e.Dp,e.C0,e.CO,e.CS,e.C7,e.CX,e.CY,e.down,e.up,e.Hi))) (cond (f.kind=6) ((CU e.down f.a).bind λ Aft=>(ME Aft f.b).bind λ (Amh,Sy)=>cond Sy (some (e.CQ,e.CR,e.closed,e.Dp,e.C0,e.CO,e.CS,e.C7,e.CX,e.CY,(e.down.set f.a.toNat Amh),e.up,e.Hi)) (some (e.CQ,e.CR,e.closed,e.Dp,e.C0,e.CO,e.CS,e.C7,e.CX,e.CY,e.down,e.up,e.Hi))) (cond (f.kind=7) ((CU e.up f.a).bind λ Sv=>(ME Sv f.b).bind λ (Se,Arm)=>cond Arm (some (e.CQ,e.CR,e.closed,e.Dp,e.C0,e.CO,e.CS,e.C7,e.CX,e.CY,e.down,(e.up.set f.a.toNat Se),e.Hi)) (some (e.CQ,e.CR,e.closed,e.Dp,e.C0,e.CO,e.CS,e.C7,e.CX,e.CY,e.down,e.up,e.Hi))) (cond (f.kind=8) ((LL (⟨e.blocks,e.next,e.CV,e.C8,e.cq,e.ca,e.cd,e.cp⟩:Nt) (⟨e.CQ,e.CR,e.closed,e.Dp,e.C0,e.CO,e.CS,e.C7⟩:Lo) f.a).bind λ (x80,x81)=>(GX e x80).bind λ (x83,x84,x85,x86,x87)=>(CU x84 f.a).bind λ o=>(N6 o f.a g).bind λ p=>(Qx {e with CX:=x83,CY:=x84,down:=x85,up:=x86,Hi:=x87} f.a p).bind λ q=>some (e.CQ,e.CR,e.closed,e.Dp,e.C0,e.CO,e.CS,e.C7,x83,x84,x85,q,x87)) (cond (f.kind=9) ((CU e.CY f.a).bind λ NG=>(Jg (⟨e.blocks,e.next,e.CV,e.C8,e.cq,e.ca,e.cd,e.cp⟩:Nt) NG f.a g).bind λ (NF,UP,Va)=>(CU (e.CX.set f.a.toNat UP) f.a).bind λ i=>cond (g.Ff=(-1)) (cond (i.Ff=(-1)) ((D8 {e with CX:=e.CX.set f.a.toNat UP,CY:=e.CY.set f.a.toNat NF} f.a Va).bind λ n=>some (e.CQ,e.CR,e.closed,e.Dp,e.C0,e.CO,e.CS,e.C7,(e.CX.set f.a.toNat UP),(e.CY.set f.a.toNat NF),e.down,n,e.Hi)) ((Fg {e with CX:=e.CX.set f.a.toNat UP,CY:=e.CY.set f.a.toNat NF} 14 f.a i.Ff).bind λ j=>(D8 {e with CX:=e.CX.set f.a.toNat UP,CY:=e.CY.set f.a.toNat NF,Hi:=j} f.a Va).bind λ Kd=>some (e.CQ,e.CR,e.closed,e.Dp,e.C0,e.CO,e.CS,e.C7,(e.CX.set f.a.toNat UP),(e.CY.set f.a.toNat NF),e.down,Kd,j))) (cond (i.Ff=(-1)) ((Fg {e with CX:=e.CX.set f.a.toNat UP,CY:=e.CY.set f.a.toNat NF} 15 f.a i.cell).bind λ Ud=>(D8 {e with CX:=e.CX.set f.a.toNat UP,CY:=e.CY.set f.a.toNat NF,Hi:=Ud} f.a Va).bind λ m=>some (e.CQ,e.CR,e.closed,e.Dp,e.C0,e.CO,e.CS,e.C7,(e.CX.set f.a.toNat UP),(e.CY.set f.a.toNat NF),e.down,m,Ud)) ((D8 {e with CX:=e.CX.set f.a.toNat UP,CY:=e.CY.set f.a.toNat NF} f.a Va).bind λ l=>some (e.CQ,e.CR,e.closed,e.Dp,e.C0,e.CO,e.CS,e.C7,(e.CX.set f.a.toNat UP),(e.CY.set f.a.toNat NF),e.down,l,e.Hi)))) (cond (f.kind=10) ((CU e.CY f.a).bind λ OV=>(N5 OV f.a g).bind λ (LG,KR,Nj)=>cond (0<(Nj.length:Int)) ((Fg {e with CX:=e.CX.set f.a.toNat KR,CY:=e.CY.set f.a.toNat LG} 16 f.a g.cell).bind λ QW=>(D8 {e with CX:=e.CX.set f.a.toNat KR,CY:=e.CY.set f.a.toNat LG,Hi:=QW} f.a Nj).bind λ k=>some (e.CQ,e.CR,e.closed,e.Dp,e.C0,e.CO,e.CS,e.C7,(e.CX.set f.a.toNat KR),(e.CY.set f.a.toNat LG),e.down,k,QW)) ((D8 {e with CX:=e.CX.set f.a.toNat KR,CY:=e.CY.set f.a.toNat LG} f.a Nj).bind λ Sd=>some (e.CQ,e.CR,e.closed,e.Dp,e.C0,e.CO,e.CS,e.C7,(e.CX.set f.a.toNat KR),(e.CY.set f.a.toNat LG),e.down,Sd,e.Hi))) (cond (f.kind=11) (cond g.H5 (some (e.CQ,e.CR,e.closed,e.Dp,e.C0,e.CO,e.CS,e.C7,e.CX,e.CY,e.down,e.up,e.Hi)) ((NX (⟨e.blocks,e.next,e.CV,e.C8,e.cq,e.ca,e.cd,e.cp⟩:Nt) (⟨e.CQ,e.CR,e.closed,e.Dp,e.C0,e.CO,e.CS,e.C7⟩:Lo) f.a).bind λ (Hy,RY,OT)=>(GX {e with CQ:=Hy.CQ,CR:=Hy.CR,closed:=Hy.closed,Dp:=Hy.Dp,C0:=Hy.C0,CO:=Hy.CO,CS:=Hy.CS,C7:=Hy.C7,CX:=e.CX.set f.a.toNat {g with H5:=true}} RY).bind λ (I4,Fj,P1,RW,GA)=>some (Hy.CQ,Hy.CR,Hy.closed,Hy.Dp,Hy.C0,Hy.CO,Hy.CS,Hy.C7,I4,Fj,P1,RW,GA))) (some (e.CQ,e.CR,e.closed,e.Dp,e.C0,e.CO,e.CS,e.C7,e.CX,e.CY,e.down,e.up,e.Hi))))))))))))
theorem Aop{f k r}(b:Qy f k=some r):
   C4 prog 46 [.ptr 1000000 0,.agg k.c] (GI.h f) λ h d=>(h=(GI.h ({f with CQ:=r.1,CR:=r.2.1,closed:=r.2.2.1,Dp:=r.2.2.2.1,C0:=r.2.2.2.2.1,CO:=r.2.2.2.2.2.1,CS:=r.2.2.2.2.2.2.1,C7:=r.2.2.2.2.2.2.2.1,CX:=r.2.2.2.2.2.2.2.2.1,CY:=r.2.2.2.2.2.2.2.2.2.1,down:=r.2.2.2.2.2.2.2.2.2.2.1,up:=r.2.2.2.2.2.2.2.2.2.2.2.1,Hi:=r.2.2.2.2.2.2.2.2.2.2.2.2}))∨(∃es,h=[(1000000,.box [sD (FM f.blocks),sD (DA f.next),sD (Gy f.CV),sD (CT f.C8),iD f.cq,iD f.ca,iD f.cd,iD f.cp,sD (CT r.1),sD (DA r.2.1),sD (Dn r.2.2.1),sD (CT r.2.2.2.1),sD (CT r.2.2.2.2.1),sD (Ed r.2.2.2.2.2.1),sD (DF r.2.2.2.2.2.2.1),bD r.2.2.2.2.2.2.2.1,sD (Ek r.2.2.2.2.2.2.2.2.1),rD 1000002 r.2.2.2.2.2.2.2.2.2.1,rD 1000003 r.2.2.2.2.2.2.2.2.2.2.1,rD 1000004 r.2.2.2.2.2.2.2.2.2.2.2.1,rD 1000005 r.2.2.2.2.2.2.2.2.2.2.2.2]),(1000001,.Om 4 es),(1000002,.arr 121 5 (ED r.2.2.2.2.2.2.2.2.2.1)),(1000003,.arr 134 1 (Da r.2.2.2.2.2.2.2.2.2.2.1)),(1000004,.arr 134 1 (Da r.2.2.2.2.2.2.2.2.2.2.2.1)),(1000005,.arr 242 4 (FL r.2.2.2.2.2.2.2.2.2.2.2.2))])∨(∃es,h=[(1000000,.box [sD (FM f.blocks),sD (DA f.next),sD (Gy f.CV),sD (CT f.C8),iD f.cq,iD f.ca,iD f.cd,iD f.cp,sD (CT r.1),sD (DA r.2.1),sD (Dn r.2.2.1),sD (CT r.2.2.2.1),sD (CT r.2.2.2.2.1),sD (Ed r.2.2.2.2.2.1),sD (DF r.2.2.2.2.2.2.1),bD r.2.2.2.2.2.2.2.1,sD (Ek r.2.2.2.2.2.2.2.2.1),rD 1000002 r.2.2.2.2.2.2.2.2.2.1,rD 1000003 r.2.2.2.2.2.2.2.2.2.2.1,rD 1000004 r.2.2.2.2.2.2.2.2.2.2.2.1,rD 1000005 r.2.2.2.2.2.2.2.2.2.2.2.2]),(1000001,.arr 118 4 es),(1000002,.arr 121 5 (ED r.2.2.2.2.2.2.2.2.2.1)),(1000003,.arr 134 1 (Da r.2.2.2.2.2.2.2.2.2.2.1)),(1000004,.arr 134 1 (Da r.2.2.2.2.2.2.2.2.2.2.2.1)),(1000005,.arr 242 4 (FL r.2.2.2.2.2.2.2.2.2.2.2.2))]))/\d= .Em []:=by
 refine EA func46 Bgg ?_;unfold Qy at b;obtain ⟨o,b,_⟩:=jE TT b;obtain ⟨_,b⟩ | ⟨_,b⟩:=cE b
 . obtain ⟨_,b⟩ | ⟨_,b⟩:=cE b
   . obtain ⟨_,b⟩ | ⟨_,b⟩:=cE b
     . obtain ⟨_,b⟩ | ⟨_,b⟩:=cE b
       . obtain ⟨_,b⟩ | ⟨_,b⟩:=cE b
         . obtain ⟨_,b⟩ | ⟨_,b⟩:=cE b
           . obtain ⟨_,b⟩ | ⟨_,b⟩:=cE b
             . obtain ⟨_,b⟩ | ⟨_,b⟩:=cE b
               . obtain ⟨_,b⟩ | ⟨_,b⟩:=cE b
                 . obtain ⟨_,b⟩ | ⟨_,b⟩:=cE b
                   . refine cS b λ _ b=>?_;obtain ⟨_,b⟩ | ⟨_,b⟩:=cE b
                     . refine C5 [1000000] [0,0,0,0,0,0,0,0,0,0,0,2,0,0,0,0,0,0,0,4,4] ?_;refine FO b Ajy ?_;rintro ⟨_,_,_⟩ b;obtain ⟨⟨_,_,_,_,_⟩,m,b⟩:=bE b;refine A ?_;refine Nq (Wk.EC (id:=1000000) (j:=16) (q:=1000001) (sz:=4) (e:=118) (es:=Ek (f.CX.set (Int.toNat k.a) ({o with H5:=true}:O6))) rfl AY rfl) ?_;(try simp only[go_sem, *,BQ,BT]);have i:=HW m;(try simp only[GI.h2,Bv] at i);refine YA i ?_;exact zS b
                     exact zS b
                   refine C5 [5,1000000,1000001,1000002] [0,0,0,0,0,0,0,0,0,0,0,0,0,0,0,0,0,0,0,0,0,0,2,0,0,0,0,0,4,4,4,4] ?_;obtain ⟨_,b,_⟩:=jE Lk b;refine FO b Ac4 ?_;rintro ⟨_,_,_⟩ b;obtain ⟨_,b⟩ | ⟨_,b⟩:=cE b
                   . refine Ec b D7 λ _ b=>?_;exact zS b
                   refine Ec b F5 λ _ b=>?_;refine Ec b D7 λ _ b=>?_;exact zS b
                 refine C5 [5,1000000,1000001,1000002] [0,0,0,0,0,0,0,0,0,0,0,0,0,0,0,0,0,0,0,0,0,0,0,0,0,0,2,0,0,0,0,0,4,4,4,4] ?_;obtain ⟨_,b,_⟩:=jE Lk b;refine FO b Xn ?_;rintro ⟨_,_,_⟩ b;obtain ⟨_,b,_,l,_⟩:=jE TT b;have _:=sl l;obtain ⟨_,b⟩ | ⟨_,b⟩:=cE b
                 . obtain ⟨_,b⟩ | ⟨_,b⟩:=cE b
                   . refine Ec b D7 λ _ b=>?_;exact zS b
                   refine Ec b F5 λ _ b=>?_;refine Ec b D7 λ _ b=>?_;exact zS b
                 obtain ⟨_,b⟩ | ⟨_,b⟩:=cE b
                 . refine Ec b F5 λ _ b=>?_;refine Ec b D7 λ _ b=>?_;exact zS b
                 refine Ec b D7 λ _ b=>?_;exact zS b
               refine C5 [1000000] [0,0,0,0,0,0,0,0,0,0,2,0,0,0,4] ?_;refine FO b W7 ?_;rintro ⟨_,_⟩ b;obtain ⟨⟨_,_,_,_,_⟩,n,b⟩:=bE b;refine A ?_;refine Nq (Wk.EC (id:=1000000) (j:=16) (q:=1000001) (sz:=4) (e:=118) (es:=Ek f.CX) rfl AY rfl) ?_;(try simp only[go_sem, *,BQ,BT]);refine YA (HW n) ?_;refine C5 [5,1000000,1000002] [0,0,0,0,0,0,0,0,0,0,0,0,4,3] ?_;obtain ⟨_,b,_⟩:=jE Lk b;refine FO b Aka λ _ b=>?_;refine FO b Bki λ _ b=>?_;exact zS b
             refine Dd [0,0,0,0,0,0,0,0,0,0,2,0,0,0,0,0] ?_;obtain ⟨_,b,_⟩:=jE Eo b;refine FO b Rb ?_;rintro ⟨_,_⟩ b;refine cS b λ _ b=>?_;exact zS b
           refine Dd [0,0,0,0,0,0,0,0,0,0,2,0,0,0,0,0] ?_;obtain ⟨_,b,_⟩:=jE Eo b;refine FO b Rb ?_;rintro ⟨_,_⟩ b;refine cS b λ _ b=>?_;exact zS b
         refine Dd [0,0,0,0,0,0,0,0,0,0,2,0,0,0,0,0] ?_;obtain ⟨_,b,_⟩:=jE Eo b;refine FO b Pg ?_;rintro ⟨_,_⟩ b;refine cS b λ _ b=>?_;exact zS b
       refine Dd [0,0,0,0,0,0,0,0,0,0,2,0,0,0,0,0] ?_;obtain ⟨_,b,_⟩:=jE Eo b;refine FO b Pg ?_;rintro ⟨_,_⟩ b;refine cS b λ _ b=>?_;exact zS b
     refine C5 [3,1000000,1000004] [0,0,0,0,0,0,0,0,0,0,2,0,0,0,0,4,4,4] ?_;obtain ⟨_,b,_⟩:=jE Eo b;refine FO b N7 ?_;rintro ⟨_,_,_⟩ b;refine cS b λ _ b=>?_;refine cS b λ _ b=>?_;refine C5 [7,1000000] [0,0,0,0,0,0,0,0,0,0,0,2,0,0,0,0,0,0,0,4,4] ?_;refine FO b ZM ?_;rintro ⟨_,_,_⟩ b;obtain ⟨⟨_,_,_,_,_⟩,Cak,b⟩:=bE b;refine A ?_;refine Nq (Wk.EC (id:=1000000) (j:=16) (q:=1000001) (sz:=4) (e:=118) (es:=Ek f.CX) rfl AY rfl) ?_;(try simp only[go_sem, *,BQ,BT]);have Bs1:=HW Cak;(try simp only[GI.h2,Bv] at Bs1);refine YA Bs1 ?_;exact zS b
   refine C5 [3,1000000,1000003] [0,0,0,0,0,0,0,0,0,0,2,0,0,0,0,4,4,4] ?_;obtain ⟨_,b,_⟩:=jE Eo b;refine FO b N7 ?_;rintro ⟨_,_,_⟩ b;refine cS b λ _ b=>?_;obtain ⟨_,b⟩ | ⟨_,b⟩:=cE b
   . refine C5 [7,1000000,1000002] [0,0,0,0,0,0,0,0,0,0,0,0,0,0,0,0,2,0,0,0,0,4,4] ?_;obtain ⟨_,b,_⟩:=jE Lk b;refine FO b An1 ?_;rintro ⟨_,_⟩ b;refine Ec b D7 λ _ b=>?_;exact zS b
   exact zS b
 obtain ⟨_,b⟩ | ⟨_,b⟩:=cE b
 . obtain ⟨_,b⟩ | ⟨_,b⟩:=cE b
   . obtain ⟨_,b⟩ | ⟨_,b⟩:=cE b
     . obtain ⟨_,b⟩ | ⟨_,b⟩:=cE b
       . obtain ⟨_,b⟩ | ⟨_,b⟩:=cE b
         . obtain ⟨_,b⟩ | ⟨_,b⟩:=cE b
           . obtain ⟨_,b⟩ | ⟨_,b⟩:=cE b
             . obtain ⟨_,b⟩ | ⟨_,b⟩:=cE b
               . obtain ⟨_,b⟩ | ⟨_,b⟩:=cE b
                 . refine cS b λ _ b=>?_;exact zS b
                 refine C5 [5,1000000,1000001,1000002] [0,0,0,0,0,0,0,0,0,0,0,0,0,0,0,0,0,0,0,0,0,0,2,0,0,0,0,0,4,4,4,4] ?_;obtain ⟨_,b,_⟩:=jE Lk b;refine FO b Ac4 ?_;rintro ⟨_,_,_⟩ b;obtain ⟨_,b⟩ | ⟨_,b⟩:=cE b
                 . refine Ec b D7 λ _ b=>?_;exact zS b
                 refine Ec b F5 λ _ b=>?_;refine Ec b D7 λ _ b=>?_;exact zS b
               refine C5 [5,1000000,1000001,1000002] [0,0,0,0,0,0,0,0,0,0,0,0,0,0,0,0,0,0,0,0,0,0,0,0,0,0,2,0,0,0,0,0,4,4,4,4] ?_;obtain ⟨_,b,_⟩:=jE Lk b;refine FO b Xn ?_;rintro ⟨_,_,_⟩ b;obtain ⟨_,b,_,g,_⟩:=jE TT b;have _:=sl g;obtain ⟨_,b⟩ | ⟨_,b⟩:=cE b
               . obtain ⟨_,b⟩ | ⟨_,b⟩:=cE b
                 . refine Ec b D7 λ _ b=>?_;exact zS b
                 refine Ec b F5 λ _ b=>?_;refine Ec b D7 λ _ b=>?_;exact zS b
               obtain ⟨_,b⟩ | ⟨_,b⟩:=cE b
               . refine Ec b F5 λ _ b=>?_;refine Ec b D7 λ _ b=>?_;exact zS b
               refine Ec b D7 λ _ b=>?_;exact zS b
             refine C5 [1000000] [0,0,0,0,0,0,0,0,0,0,2,0,0,0,4] ?_;refine FO b W7 ?_;rintro ⟨_,_⟩ b;obtain ⟨⟨_,_,_,_,_⟩,Cah,b⟩:=bE b;refine A ?_;refine Nq (Wk.EC (id:=1000000) (j:=16) (q:=1000001) (sz:=4) (e:=118) (es:=Ek f.CX) rfl AY rfl) ?_;(try simp only[go_sem, *,BQ,BT]);refine YA (HW Cah) ?_;exact zS b
           refine Dd [0,0,0,0,0,0,0,0,0,0,2,0,0,0,0,0] ?_;obtain ⟨_,b,_⟩:=jE Eo b;refine FO b Rb ?_;rintro ⟨_,_⟩ b;refine cS b λ _ b=>?_;exact zS b
         refine Dd [0,0,0,0,0,0,0,0,0,0,2,0,0,0,0,0] ?_;obtain ⟨_,b,_⟩:=jE Eo b;refine FO b Rb ?_;rintro ⟨_,_⟩ b;refine cS b λ _ b=>?_;exact zS b
       refine Dd [0,0,0,0,0,0,0,0,0,0,2,0,0,0,0,0] ?_;obtain ⟨_,b,_⟩:=jE Eo b;refine FO b Pg ?_;rintro ⟨_,_⟩ b;refine cS b λ _ b=>?_;exact zS b
     refine Dd [0,0,0,0,0,0,0,0,0,0,2,0,0,0,0,0] ?_;obtain ⟨_,b,_⟩:=jE Eo b;refine FO b Pg ?_;rintro ⟨_,_⟩ b;refine cS b λ _ b=>?_;exact zS b
   refine C5 [3,1000000,1000004] [0,0,0,0,0,0,0,0,0,0,2,0,0,0,0,4,4,4] ?_;obtain ⟨_,b,_⟩:=jE Eo b;refine FO b N7 ?_;rintro ⟨_,_,_⟩ b;refine cS b λ _ b=>?_;refine cS b λ _ b=>?_;refine C5 [7,1000000] [0,0,0,0,0,0,0,0,0,0,0,2,0,0,0,0,0,0,0,4,4] ?_;refine FO b ZM ?_;rintro ⟨_,_,_⟩ b;obtain ⟨⟨_,_,_,_,_⟩,Cag,b⟩:=bE b;refine A ?_;refine Nq (Wk.EC (id:=1000000) (j:=16) (q:=1000001) (sz:=4) (e:=118) (es:=Ek f.CX) rfl AY rfl) ?_;(try simp only[go_sem, *,BQ,BT]);have Bs0:=HW Cag;(try simp only[GI.h2,Bv] at Bs0);refine YA Bs0 ?_;exact zS b
 refine C5 [3,1000000,1000003] [0,0,0,0,0,0,0,0,0,0,2,0,0,0,0,4,4,4] ?_;obtain ⟨_,b,_⟩:=jE Eo b;refine FO b N7 ?_;rintro ⟨_,_,_⟩ b;refine cS b λ _ b=>?_;exact zS b
theorem Atc{a b r}(f:Qy a b=some r):
   C4 prog 46 [.ptr 1000000 0,.agg b.c] (GI.h a) λ h d=>∃m,h=[(1000000,.box [sD (FM a.blocks),sD (DA a.next),sD (Gy a.CV),sD (CT a.C8),iD a.cq,iD a.ca,iD a.cd,iD a.cp,sD (CT r.1),sD (DA r.2.1),sD (Dn r.2.2.1),sD (CT r.2.2.2.1),sD (CT r.2.2.2.2.1),sD (Ed r.2.2.2.2.2.1),sD (DF r.2.2.2.2.2.2.1),bD r.2.2.2.2.2.2.2.1,sD (Ek r.2.2.2.2.2.2.2.2.1),rD 1000002 r.2.2.2.2.2.2.2.2.2.1,rD 1000003 r.2.2.2.2.2.2.2.2.2.2.1,rD 1000004 r.2.2.2.2.2.2.2.2.2.2.2.1,rD 1000005 r.2.2.2.2.2.2.2.2.2.2.2.2]),(1000001,.Ik (Gm (.arr 4 m))),(1000002,.arr 121 5 (ED r.2.2.2.2.2.2.2.2.2.1)),(1000003,.arr 134 1 (Da r.2.2.2.2.2.2.2.2.2.2.1)),(1000004,.arr 134 1 (Da r.2.2.2.2.2.2.2.2.2.2.2.1)),(1000005,.arr 242 4 (FL r.2.2.2.2.2.2.2.2.2.2.2.2))]/\d= .Em []:=by
 refine C4.wk (Aop f) ?_;rintro h d ⟨rfl | ⟨es,rfl⟩ | ⟨es,rfl⟩,rfl⟩
 . exact ⟨_,(Wk.EC (id:=1000000) (j:=16) (q:=1000001) (sz:=4) (e:=118) (es:=Ek r.2.2.2.2.2.2.2.2.1) rfl AY rfl).trans (Wk.Abi (q:=1000001) rfl),_,rfl,rfl⟩
 . exact ⟨_,Wk.Abi (q:=1000001) rfl,_,rfl,rfl⟩
 . exact ⟨_,Wk.Avo (q:=1000001) rfl,_,rfl,rfl⟩
def IY(e:Nt)(g:O5)(f:G9):Option (O5×OU×Ak):=
 (NJ g).bind λ b=>cond (f.kind=1) ((L5 (⟨e.blocks,e.next,e.CV,e.C8,e.cq,e.ca,e.cd,e.cp,b.CQ,b.CR,b.closed,b.Dp,b.C0,b.CO,b.CS,b.C7,b.CX,b.CY,b.down,b.up,[]⟩:GI) f.text).bind λ (UP,Va,x53,x54,x55,VO,x57,x58,x59,x60,x61,x62,x63,Ud)=>(HK e (⟨Va,x53,x54,x55,VO,x57,x58,x59⟩:Lo)).bind λ (RU,x68,U9)=>(GX {e with CQ:=RU.CQ,CR:=RU.CR,closed:=RU.closed,Dp:=RU.Dp,C0:=RU.C0,CO:=RU.CO,CS:=RU.CS,C7:=RU.C7,CX:=x60,CY:=x61,down:=x62,up:=x63,Hi:=Ud} x68).bind λ (x71,x72,Kd,x74,x75)=>some ((⟨RU.CQ,RU.CR,RU.closed,RU.Dp,RU.C0,RU.CO,RU.CS,RU.C7,x71,x72,Kd,x74⟩:O5),UP,x75)) (cond (0<=f.a) (cond (f.a<(b.CX.length:Int)) ((Qy (⟨e.blocks,e.next,e.CV,e.C8,e.cq,e.ca,e.cd,e.cp,b.CQ,b.CR,b.closed,b.Dp,b.C0,b.CO,b.CS,b.C7,b.CX,b.CY,b.down,b.up,[]⟩:GI) f).bind λ (OW,Nr,OV,RV,Mv,OS,LG,KR,Nj,NH,YC,Sd,H6)=>(HK e (⟨OW,Nr,OV,RV,Mv,OS,LG,KR⟩:Lo)).bind λ (KO,x42,x43)=>(GX {e with CQ:=KO.CQ,CR:=KO.CR,closed:=KO.closed,Dp:=KO.Dp,C0:=KO.C0,CO:=KO.CO,CS:=KO.CS,C7:=KO.C7,CX:=Nj,CY:=NH,down:=YC,up:=Sd,Hi:=H6} x42).bind λ (Mu,NG,x47,x48,Ue)=>some ((⟨KO.CQ,KO.CR,KO.closed,KO.Dp,KO.C0,KO.CO,KO.CS,KO.C7,Mu,NG,x47,x48⟩:O5),(⟨0,0⟩:OU),Ue)) ((HK e (⟨b.CQ,b.CR,b.closed,b.Dp,b.C0,b.CO,b.CS,b.C7⟩:Lo)).bind λ (Jt,Hy,RY)=>(GX {e with CQ:=Jt.CQ,CR:=Jt.CR,closed:=Jt.closed,Dp:=Jt.Dp,C0:=Jt.C0,CO:=Jt.CO,CS:=Jt.CS,C7:=Jt.C7,CX:=b.CX,CY:=b.CY,down:=b.down,up:=b.up,Hi:=[]} Hy).bind λ (RX,I4,Fj,P1,RW)=>some ((⟨Jt.CQ,Jt.CR,Jt.closed,Jt.Dp,Jt.C0,Jt.CO,Jt.CS,Jt.C7,RX,I4,Fj,P1⟩:O5),(⟨0,0⟩:OU),RW))) ((HK e (⟨b.CQ,b.CR,b.closed,b.Dp,b.C0,b.CO,b.CS,b.C7⟩:Lo)).bind λ (x5,x6,x7)=>(GX {e with CQ:=x5.CQ,CR:=x5.CR,closed:=x5.closed,Dp:=x5.Dp,C0:=x5.C0,CO:=x5.CO,CS:=x5.CS,C7:=x5.C7,CX:=b.CX,CY:=b.CY,down:=b.down,up:=b.up,Hi:=[]} x6).bind λ (x9,Ir,G3,Ju,Lq)=>some ((⟨x5.CQ,x5.CR,x5.closed,x5.Dp,x5.C0,x5.CO,x5.CS,x5.C7,x9,Ir,G3,Ju⟩:O5),(⟨0,0⟩:OU),Lq)))
theorem Kf{l b m r}(a:IY l b m=some r):
   Rq 23 [.agg l.c,.agg [sD (CT b.CQ),sD (DA b.CR),sD (Dn b.closed),sD (CT b.Dp),sD (CT b.C0),sD (Ed b.CO),sD (DF b.CS),bD b.C7,sD (Ek b.CX),sD (ED b.CY),sD (Da b.down),sD (Da b.up)],.agg m.c] [] [(0,.arr 121 5 (ED r.1.CY)),(1,.arr 134 1 (Da r.1.down)),(2,.arr 134 1 (Da r.1.up)),(3,.arr 242 4 (FL r.2.2))] (.Em [.agg [sD (CT r.1.CQ),sD (DA r.1.CR),sD (Dn r.1.closed),sD (CT r.1.Dp),sD (CT r.1.C0),sD (Ed r.1.CO),sD (DF r.1.CS),bD r.1.C7,sD (Ek r.1.CX),rD 0 r.1.CY,rD 1 r.1.down,rD 2 r.1.up],.agg r.2.1.c,rD 3 r.2.2]):=by
 refine EA func23 Bgw ?_;unfold IY at a;refine Dd [0,0,2,0,1,0] ?_;refine FO a Ajv λ p a=>?_;obtain ⟨_,a⟩ | ⟨_,a⟩:=cE a
 . refine Dd [0,0,0,0,0,0,0,0,0,0,0,0,0,0] ?_;obtain ⟨_,a⟩ | ⟨_,a⟩:=cE a
   . refine Ey [3,18] [0,10,20,30,40,50,111,121,62,70,80,90,100,132,142,150] ?_;refine FO a Mn ?_;rintro ⟨_,_,_⟩ a;obtain ⟨⟨_,_,_,_,_⟩,f,a⟩:=bE a;refine A ?_;refine Nq ((Wk.EC (id:=18) (j:=16) (q:=10016) (sz:=4) (e:=118) (es:=Ek p.CX) rfl AY rfl).trans (Wk.EV (id:=18) (j:=20) (q:=518020) (sz:=4) 242 rfl rfl rfl AV)) ?_;(try simp only[go_sem, *,BQ,BT]);refine YA (HW f) ?_;refine C5 [10,18] [0,0,0,0,0,0,0,0,0,2,2,0] ?_;exact zO a
   obtain ⟨_,a⟩ | ⟨_,a⟩:=cE a
   . refine Ey [3,18] [0,10,20,30,40,50,111,121,62,70,80,90,100,132,142,150] ?_;refine FO a Mn ?_;rintro ⟨_,_,_⟩ a;obtain ⟨⟨_,_,_,_,_⟩,g,a⟩:=bE a;refine A ?_;refine Nq ((Wk.EC (id:=18) (j:=16) (q:=10016) (sz:=4) (e:=118) (es:=Ek p.CX) rfl AY rfl).trans (Wk.EV (id:=18) (j:=20) (q:=518020) (sz:=4) 242 rfl rfl rfl AV)) ?_;(try simp only[go_sem, *,BQ,BT]);refine YA (HW g) ?_;refine C5 [10,18] [0,0,0,0,0,0,0,0,0,2,2,0] ?_;exact zO a
   obtain ⟨⟨_,_,_,_,_,_,_,_,_,_,_,_,_⟩,i,a⟩:=bE a;refine A ?_;refine Nq (Wk.EV (id:=18) (j:=20) (q:=518020) (sz:=4) 242 rfl rfl rfl AV) ?_;(try simp only[go_sem, *,BQ,BT]);refine GJ (Atc i) ?_;rintro s r ⟨n,rfl,rfl⟩;refine Ey [3,18] [0,10,20,30,40,50,111,121,62,70,80,90,100,132,142,150] ?_;refine FO a Mn ?_;rintro ⟨_,_,_⟩ a;refine Ec a HW ?_;rintro ⟨_,_,_,_,_⟩ a;refine C5 [10,18] [0,0,0,0,0,0,0,0,0,2,2,0] ?_;exact zO a
 obtain ⟨⟨_,_,_,_,_,_,_,_,_,_,_,_,_,_⟩,k,a⟩:=bE a;refine A ?_;refine Nq (Wk.EV (id:=18) (j:=20) (q:=518020) (sz:=4) 242 rfl rfl rfl AV) ?_;try simp only[go_sem, *,BQ,BT]
 refine GJ (Ale k) ?_;rintro s r ⟨o,rfl,rfl⟩;refine Ey [3,18] [0,10,20,30,40,50,111,121,62,70,80,90,100,132,142,150] ?_;refine FO a Mn ?_;rintro ⟨_,_,_⟩ a;refine Ec a HW ?_;rintro ⟨_,_,_,_,_⟩ a;refine C5 [10,18] [0,0,0,0,0,0,0,0,0,2,2,0] ?_;exact zO a
def Ah5(f:Nt):Ax×Az×Aj×Aj×Int->Option ((Ax×Az×Aj×Aj×Int)⊕((Ax×Az×Aj×Aj×Int)))
 | (a,b,e,I9,F4)=>cond (F4<(f.C8.length:Int)) ((CU f.C8 F4).bind λ I4=>cond (a.length+1<10000000) (Option.bind Im λ OW=>cond (b.length+1<10000000) (cond (e.length+1<10000000) (cond (I9.length+1<10000000) (some (.inl ((a++[(⟨I4,(-1),false,false⟩:O6)]),(b++[OW]),(e++[[]]),(I9++[[]]),(i64.wrap (F4+1))))) none) none) none) none) (some (.inr (a,b,e,I9,F4)))
def SQ(a:Nt):Option (O5×Int):=
 (SR a).bind λ (x1,x2)=>cond (x2=0) ((C9 (Ah5 a) ([],[],[],[],0)).bind (λ (v31,v32,Vd,Mw,QX)=>some ((⟨x1.CQ,x1.CR,x1.closed,x1.Dp,x1.C0,x1.CO,x1.CS,x1.C7,v31,v32,Vd,Mw⟩:O5),0))) (some ((⟨[],[],[],[],[],[],[],false,[],[],[],[]⟩:O5),x2))
theorem Arp{e r}(a:SQ e=some r):
   Rq 19 [.agg e.c] [] [] (.Em [.agg [sD (CT r.1.CQ),sD (DA r.1.CR),sD (Dn r.1.closed),sD (CT r.1.Dp),sD (CT r.1.C0),sD (Ed r.1.CO),sD (DF r.1.CS),bD r.1.C7,sD (Ek r.1.CX),sD (ED r.1.CY),sD (Da r.1.down),sD (Da r.1.up)],iD r.2]):=by
 refine EA func19 Bh0 ?_;unfold SQ at a;refine Ec a Arr ?_;rintro ⟨b,_⟩ a;refine cP a λ _ a=>?_;obtain ⟨m,l,a⟩:=bE a;refine A ?_;refine EX l (λ q=>⟨[(1,.ptr 1 0),(2,.ptr 2 0),(6,.ptr 6 0),(7,iD q.2.2.2.2)],[(1,.box e.c),(2,.box [.cl [],.cl [],.cl [],.cl [],.cl [],.cl [],.cl [],bD false,.cl [],.cl [],.cl [],.cl []]),(6,.box [sD (CT b.CQ),sD (DA b.CR),sD (Dn b.closed),sD (CT b.Dp),sD (CT b.C0),sD (Ed b.CO),sD (DF b.CS),bD b.C7,rD 35 q.1,rD 41 q.2.1,rD 46 q.2.2.1,rD 50 q.2.2.2.1]),(35,.arr 118 4 (Ek q.1)),(41,.arr 121 5 (ED q.2.1)),(46,.arr 134 1 (Da q.2.2.1)),(50,.arr 134 1 (Da q.2.2.2.1))],54⟩) ((Wk.EV (id:=6) (j:=10) (q:=46) (sz:=1) 134 rfl rfl rfl AV).trans ((Wk.EV (id:=6) (j:=11) (q:=50) (sz:=1) 134 rfl rfl rfl AV).trans ((Wk.EV (id:=6) (j:=8) (q:=35) (sz:=4) 118 rfl rfl rfl AV).trans ((Wk.EV (id:=6) (j:=9) (q:=41) (sz:=5) 121 rfl rfl rfl AV).trans WL)))) ?_;rintro ⟨n,o,p,I9,F4⟩ _ FE Al5;rw[Ah5.eq_1] at FE;obtain ⟨_,FE⟩ | ⟨_,FE⟩:=cK FE
 . cases kR FE;exact zP a
 refine C5 [1,6] [0,0,0,0,0,0,0,0,1,2,0,3] ?_;obtain ⟨_,FE,_⟩:=jK Dl FE;obtain ⟨f,FE⟩:=gK FE;refine He f ?_;refine C5 [6] [0,0,2,1,2,0,3] ?_;refine Sc FE Pz λ _ FE=>?_;obtain ⟨g,FE⟩:=gK FE;refine He g ?_;refine Ey [6] [0,10,40,50,21,61,32,80,72,94,104,114] ?_;obtain ⟨i,FE⟩:=gK FE;refine He i ?_;obtain ⟨k,FE⟩:=gK FE;refine He k ?_;exact AL (Al5 _ _ (kI FE))
def Wp(n:Int):Option Ac:=if -1000000000000000<=n/\n<=1000000000000000 then some (TZ n) else none
theorem Adw{n r}(h:Wp n=some r):C4 prog 15 [iD n] [] λ h d=>h=[]/\d= .p (.str r):=by
 unfold Wp at h;split at h
 . rename_i c;cases h;exact Aja n c.1 c.2
 . cases h
def P6(b:O5)(e:Int):Option (G9×Bool):=
 (SP b).bind λ a=>cond ((a.length:Int)=0) (some ((⟨0,0,0,[]⟩:G9),false)) (cond (¬(a.length:Int)=0) (cond ((Int.tmod e (a.length:Int))<0) ((CU a (i64.wrap ((Int.tmod e (a.length:Int))+(a.length:Int)))).bind λ Jb=>(LJ b Jb).bind λ (RY,OT)=>some (RY,OT)) ((CU a (Int.tmod e (a.length:Int))).bind λ f=>(LJ b f).bind λ (G3,Ju)=>some (G3,Ju))) none)
theorem Ams{b e r}(a:P6 b e=some r):
   Rq 20 [.agg [sD (CT b.CQ),sD (DA b.CR),sD (Dn b.closed),sD (CT b.Dp),sD (CT b.C0),sD (Ed b.CO),sD (DF b.CS),bD b.C7,sD (Ek b.CX),sD (ED b.CY),sD (Da b.down),sD (Da b.up)],iD e] [] [] (.Em [.agg r.1.c,bD r.2]):=by
 refine EA func20 Bgz ?_;unfold P6 at a;refine Ec a Aro λ _ a=>?_;obtain ⟨_,a⟩ | ⟨_,a⟩:=cE a
 . obtain ⟨f,a⟩:=gE a;have _:=Bg f;obtain ⟨_,a⟩ | ⟨_,a⟩:=cE a
   . refine C5 [2] [0,0,0,0,0,2,0,0,2,0] ?_;obtain ⟨_,a,_⟩:=jE Apu a;refine FO a W6 ?_;rintro ⟨_,_⟩ a;exact zP a
   refine C5 [2] [0,0,0,0,0,2,0,0,2,0] ?_;obtain ⟨_,a,_⟩:=jE Apu a;refine FO a W6 ?_;rintro ⟨_,_⟩ a;exact zP a
 exact zP a
def DN(e:Aa)(f:Int)(a:Nt):Option (Ac×Aa×Int):=
 (Di e f (a.CV.length:Int)).bind λ (x1,x2,x3)=>(CU a.CV x1).bind λ b=>cond b.Fw ((Di x2 x3 3).bind λ (Ir,G3,Ju)=>cond (0<Ir) ((Di G3 Ju 2).bind λ (I8,Jt,Hy)=>(CU a.CV (i64.wrap (1+I8))).bind λ OT=>some (OT.name,Jt,Hy)) (some (b.name,G3,Ju))) (some (b.name,x2,x3))
theorem Ee{b e f r}(a:DN b e f=some r):
   Rq 43 [.ptr 1000000 0,.agg f.c] [(1000000,.box [sD (CT b),iD e])] [(1000000,.box [sD (CT r.2.1),iD r.2.2])] (.p (.str r.1)):=by
 refine EA func43 Bgj ?_;unfold DN at a;refine Ey [3] [0,10,20,30,40,50,91,62,70,80,103] ?_;refine FO a Dy ?_;rintro ⟨_,_,_⟩ a;obtain ⟨_,a,_⟩:=jE Ex a;refine cO a λ _ a=>?_;refine Ec a Dy ?_;rintro ⟨_,_,_⟩ a;refine cO a λ _ a=>?_;refine C5 [3] [0,0,0,2,0,0,0,3] ?_;refine FO a Dy ?_;rintro ⟨_,_,_⟩ a;obtain ⟨_,a,_⟩:=jE Ex a;exact zO a
def ML(g:Aa)(i:Int)(a:Nt):Option (Ac×Aa×Int):=
 (Di g i (a.blocks.length:Int)).bind λ (x1,x2,x3)=>(CU a.blocks x1).bind λ b=>(Di x2 x3 16).bind λ (x9,Ir,G3)=>cond (x9=0) ((DN Ir G3 a).bind λ (Py,Arh,Bn1)=>cond ([116,97,115,107,32].length+Py.length<10000000) (cond (([116,97,115,107,32]++Py).length+[32].length<10000000) ((DN Arh Bn1 a).bind λ (Arf,Amb,Bcc)=>cond ((([116,97,115,107,32]++Py)++[32]).length+Arf.length<10000000) (some (((([116,97,115,107,32]++Py)++[32])++Arf),Amb,Bcc)) none) none) none) (cond (x9=1) ((DN Ir G3 a).bind λ (VP,Ajq,Aw9)=>cond ([116,97,115,107,32].length+VP.length<10000000) (cond (([116,97,115,107,32]++VP).length+[32].length<10000000) ((DN Ajq Aw9 a).bind λ (Amc,Bcd,Ari)=>cond ((([116,97,115,107,32]++VP)++[32]).length+Amc.length<10000000) (some (((([116,97,115,107,32]++VP)++[32])++Amc),Bcd,Ari)) none) none) none) (cond (x9=2) ((DN Ir G3 a).bind λ (Aan,Bn8,Ark)=>cond ([116,97,115,107,32].length+Aan.length<10000000) (cond (([116,97,115,107,32]++Aan).length+[32].length<10000000) ((DN Bn8 Ark a).bind λ (Afr,Bn5,Bcg)=>cond ((([116,97,115,107,32]++Aan)++[32]).length+Afr.length<10000000) (some (((([116,97,115,107,32]++Aan)++[32])++Afr),Bn5,Bcg)) none) none) none) (cond (x9=3) ((DN Ir G3 a).bind λ (WT,Bcj,OX)=>cond ([116,97,115,107,32].length+WT.length<10000000) (cond (([116,97,115,107,32]++WT).length+[32].length<10000000) ((DN Bcj OX a).bind λ (Ame,Bwv,Bqx)=>cond ((([116,97,115,107,32]++WT)++[32]).length+Ame.length<10000000) (some (((([116,97,115,107,32]++WT)++[32])++Ame),Bwv,Bqx)) none) none) none) (cond (x9=4) ((DN Ir G3 a).bind λ (x99,Bcl,Se)=>cond ([116,97,115,107,32].length+x99.length<10000000) (cond (([116,97,115,107,32]++x99).length+[32].length<10000000) ((DN Bcl Se a).bind λ (Arl,Bj3,Amh)=>cond ((([116,97,115,107,32]++x99)++[32]).length+Arl.length<10000000) (some (((([116,97,115,107,32]++x99)++[32])++Arl),Bj3,Amh)) none) none) none) (cond (x9=5) ((DN Ir G3 a).bind λ (x85,x86,x87)=>cond ([116,97,115,107,32].length+x85.length<10000000) (cond (([116,97,115,107,32]++x85).length+[32].length<10000000) ((DN x86 x87 a).bind λ (x93,x94,x95)=>cond ((([116,97,115,107,32]++x85)++[32]).length+x93.length<10000000) (some (((([116,97,115,107,32]++x85)++[32])++x93),x94,x95)) none) none) none) (cond (x9=6) ((Di Ir G3 6).bind λ (x77,x78,x79)=>(Wp x77).bind λ f=>cond ([99,97,110,99,101,108,32].length+f.length<10000000) (some (([99,97,110,99,101,108,32]++f),x78,x79)) none) (cond (x9=7) (cond ([99,108,111,115,101,32].length+b.name.length<10000000) (some (([99,108,111,115,101,32]++b.name),Ir,G3)) none) (cond (x9=8) ((Di Ir G3 2).bind λ (x62,x63,Ud)=>cond (x62=0) ((DN x63 Ud a).bind λ (U9,x70,x71)=>cond ([111,112,101,110,32].length+U9.length<10000000) (some (([111,112,101,110,32]++U9),x70,x71)) none) (cond ([111,112,101,110,32].length+b.name.length<10000000) (some (([111,112,101,110,32]++b.name),x63,Ud)) none)) (cond (x9=9) ((Di Ir G3 (a.CV.length:Int)).bind λ (Va,x53,x54)=>(CU a.CV Va).bind λ VO=>cond ([97,100,100,32].length+VO.name.length<10000000) (some (([97,100,100,32]++VO.name),x53,x54)) none) (cond (x9=10) ((Di Ir G3 4).bind λ (x44,Mu,NG)=>(Wp x44).bind λ e=>cond ([114,101,109,111,118,101,32].length+e.length<10000000) (some (([114,101,109,111,118,101,32]++e),Mu,NG)) none) (cond (x9=11) ((Di Ir G3 6).bind λ (YC,Sd,H6)=>(Wp YC).bind λ QW=>cond ([115,116,97,116,117,115,32].length+QW.length<10000000) (some (([115,116,97,116,117,115,32]++QW),Sd,H6)) none) (cond (x9=12) (cond ([98,108,111,99,107,32].length+b.name.length<10000000) (some (([98,108,111,99,107,32]++b.name),Ir,G3)) none) (cond (x9=13) (some ([102,108,101,101,116],Ir,G3)) (cond (x9=14) (some ([113,117,101,117,101],Ir,G3)) ((DN Ir G3 a).bind λ (OV,RV,Mv)=>cond ([99,108,111,115,101,32].length+OV.length<10000000) (some (([99,108,111,115,101,32]++OV),RV,Mv)) none)))))))))))))))
theorem Wf{a0 a1 a2 r}(a:ML a0 a1 a2=some r):
   Rq 21 [.ptr 1000000 0,.agg a2.c] [(1000000,.box [sD (CT a0),iD a1])] [(1000000,.box [sD (CT r.2.1),iD r.2.2])] (.p (.str r.1)):=by
 refine EA func21 Bgy ?_;unfold ML at a;refine C5 [3] [0,0,0,0,0,0,2,0,0,0,0] ?_;refine FO a Dy ?_;rintro ⟨_,_,_⟩ a;obtain ⟨x5,a,_⟩:=jE Avn a;refine Ec a Dy ?_;rintro ⟨_,_,_⟩ a;obtain ⟨x,a⟩ | ⟨x,a⟩:=cE a
 . obtain ⟨y,a⟩ | ⟨y,a⟩:=cE a
   . obtain ⟨z,a⟩ | ⟨z,a⟩:=cE a
     . obtain ⟨B,a⟩ | ⟨B,a⟩:=cE a
       . obtain ⟨_,a⟩ | ⟨_,a⟩:=cE a
         . obtain ⟨_,a⟩ | ⟨_,a⟩:=cE a
           . obtain ⟨_,a⟩ | ⟨_,a⟩:=cE a
             . obtain ⟨_,a⟩ | ⟨_,a⟩:=cE a
               . obtain ⟨_,a⟩ | ⟨_,a⟩:=cE a
                 . obtain ⟨_,a⟩ | ⟨_,a⟩:=cE a
                   . obtain ⟨_,a⟩ | ⟨_,a⟩:=cE a
                     . obtain ⟨_,a⟩ | ⟨_,a⟩:=cE a
                       . obtain ⟨_,a⟩ | ⟨_,a⟩:=cE a
                         . obtain ⟨_,a⟩ | ⟨_,a⟩:=cE a
                           . obtain ⟨_,a⟩ | ⟨_,a⟩:=cE a
                             . refine Ec a Ee ?_;rintro ⟨OV,_,_⟩ a;obtain ⟨E,a⟩:=gE a;have Y:[99,108,111,115,101,32].length+OV.length<=maxLen:=by have:=Bg E;(try dsimp only at this);unfold maxLen;omega
                               have Bph:=Y;(try simp only[go_sem] at Bph);exact zO a
                             exact zO a
                           exact zO a
                         obtain ⟨H,a⟩:=gE a;have Z:[98,108,111,99,107,32].length+x5.name.length<=maxLen:=by have:=Bg H;(try dsimp only at this);unfold maxLen;omega
                         have Bpg:=Z;(try simp only[go_sem] at Bpg);exact zO a
                       refine Ec a Dy ?_;rintro ⟨_,_,_⟩ a;refine Ec a Adw λ QW a=>?_;obtain ⟨I,a⟩:=gE a;have a3:[115,116,97,116,117,115,32].length+QW.length<=maxLen:=by have:=Bg I;(try dsimp only at this);unfold maxLen;omega
                       have Cb4:=a3;(try simp only[go_sem] at Cb4);exact zO a
                     refine Ec a Dy ?_;rintro ⟨_,_,_⟩ a;refine Ec a Adw λ b3 a=>?_;obtain ⟨K,a⟩:=gE a;have a4:[114,101,109,111,118,101,32].length+b3.length<=maxLen:=by have:=Bg K;(try dsimp only at this);unfold maxLen;omega
                     have Cb3:=a4;(try simp only[go_sem] at Cb3);exact zO a
                   refine C5 [3] [0,0,0,0,0,0,2,0,0,0,0,0] ?_;refine FO a Dy ?_;rintro ⟨_,_,_⟩ a;obtain ⟨VO,a,_⟩:=jE Ex a;obtain ⟨N,a⟩:=gE a;have a5:[97,100,100,32].length+VO.name.length<=maxLen:=by have:=Bg N;(try dsimp only at this);unfold maxLen;omega
                   have Cb1:=a5;(try simp only[go_sem] at Cb1);exact zO a
                 refine Ec a Dy ?_;rintro ⟨_,_,_⟩ a;obtain ⟨_,a⟩ | ⟨_,a⟩:=cE a
                 . obtain ⟨Q,a⟩:=gE a;have a6:[111,112,101,110,32].length+x5.name.length<=maxLen:=by have:=Bg Q;(try dsimp only at this);unfold maxLen;omega
                   have Cb0:=a6;(try simp only[go_sem] at Cb0);exact zO a
                 refine Ec a Ee ?_;rintro ⟨U9,_,_⟩ a;obtain ⟨R,a⟩:=gE a;have a7:[111,112,101,110,32].length+U9.length<=maxLen:=by have:=Bg R;(try dsimp only at this);unfold maxLen;omega
                 have Caz:=a7;(try simp only[go_sem] at Caz);exact zO a
               obtain ⟨S,a⟩:=gE a;have a8:[99,108,111,115,101,32].length+x5.name.length<=maxLen:=by have:=Bg S;(try dsimp only at this);unfold maxLen;omega
               have Cax:=a8;(try simp only[go_sem] at Cax);exact zO a
             refine Ec a Dy ?_;rintro ⟨_,_,_⟩ a;refine Ec a Adw λ b4 a=>?_;obtain ⟨T,a⟩:=gE a;have a9:[99,97,110,99,101,108,32].length+b4.length<=maxLen:=by have:=Bg T;(try dsimp only at this);unfold maxLen;omega
             have Cav:=a9;(try simp only[go_sem] at Cav);exact zO a
           refine Ey [3] [0,10,50,60,22,30,40,72,80,90] ?_;refine FO a Ee ?_;rintro ⟨b,_,_⟩ a;obtain ⟨U,a⟩:=gE a;have b0:[116,97,115,107,32].length+b.length<=maxLen:=by have:=Bg U;(try dsimp only at this);unfold maxLen;omega
           have Bpf:=b0;(try simp only[go_sem] at Bpf);obtain ⟨V,a⟩:=gE a;have b1:([116,97,115,107,32]++b).length+[32].length<=maxLen:=by have:=Bg V;(try dsimp only at this);unfold maxLen;omega
           have Cat:=b1;(try simp only[go_sem] at Cat);refine FO a Ee ?_;rintro ⟨b5,_,_⟩ a;obtain ⟨W,a⟩:=gE a;have b2:(([116,97,115,107,32]++b)++[32]).length+b5.length<=maxLen:=by have:=Bg W;(try dsimp only at this);unfold maxLen;omega
           have Cas:=b2;(try simp only[go_sem] at Cas);exact zO a
         refine Ey [3] [0,10,50,60,22,30,40,72,80,90] ?_;refine FO a Ee ?_;rintro ⟨e,_,_⟩ a;obtain ⟨Cc1,a⟩:=gE a;have f:[116,97,115,107,32].length+e.length<=maxLen:=by have:=Bg Cc1;(try dsimp only at this);unfold maxLen;omega
         have Bu0:=f;(try simp only[go_sem] at Bu0);obtain ⟨Bps,a⟩:=gE a;have g:([116,97,115,107,32]++e).length+[32].length<=maxLen:=by have:=Bg Bps;(try dsimp only at this);unfold maxLen;omega
         have Btz:=g;(try simp only[go_sem] at Btz);refine FO a Ee ?_;rintro ⟨Arl,_,_⟩ a;obtain ⟨Cby,a⟩:=gE a;have i:(([116,97,115,107,32]++e)++[32]).length+Arl.length<=maxLen:=by have:=Bg Cby;(try dsimp only at this);unfold maxLen;omega
         have Btx:=i;(try simp only[go_sem] at Btx);exact zO a
       refine Ey [3] [0,10,50,60,22,30,40,72,80,90] ?_;refine FO a Ee ?_;rintro ⟨WT,_,_⟩ a;obtain ⟨Cbw,a⟩:=gE a;have j:[116,97,115,107,32].length+WT.length<=maxLen:=by have:=Bg Cbw;(try dsimp only at this);unfold maxLen;omega
       have Btw:=j;(try simp only[go_sem] at Btw);obtain ⟨Cbu,a⟩:=gE a;have k:([116,97,115,107,32]++WT).length+[32].length<=maxLen:=by have:=Bg Cbu;(try dsimp only at this);unfold maxLen;omega
       have Btv:=k;(try simp only[go_sem] at Btv);refine FO a Ee ?_;rintro ⟨Ame,_,_⟩ a;obtain ⟨Cbs,a⟩:=gE a;have l:(([116,97,115,107,32]++WT)++[32]).length+Ame.length<=maxLen:=by have:=Bg Cbs;(try dsimp only at this);unfold maxLen;omega
       have Btu:=l;(try simp only[go_sem] at Btu);exact zO a
     refine Ey [3] [0,10,50,60,22,30,40,72,80,90] ?_;refine FO a Ee ?_;rintro ⟨Aan,_,_⟩ a;obtain ⟨Bpr,a⟩:=gE a;have m:[116,97,115,107,32].length+Aan.length<=maxLen:=by have:=Bg Bpr;(try dsimp only at this);unfold maxLen;omega
     have Bf6:=m;(try simp only[go_sem] at Bf6);obtain ⟨Cbr,a⟩:=gE a;have n:([116,97,115,107,32]++Aan).length+[32].length<=maxLen:=by have:=Bg Cbr;(try dsimp only at this);unfold maxLen;omega
     have Btt:=n;(try simp only[go_sem] at Btt);refine FO a Ee ?_;rintro ⟨Afr,_,_⟩ a;obtain ⟨Cbq,a⟩:=gE a;have o:(([116,97,115,107,32]++Aan)++[32]).length+Afr.length<=maxLen:=by have:=Bg Cbq;(try dsimp only at this);unfold maxLen;omega
     have Bts:=o;(try simp only[go_sem] at Bts);exact zO a
   refine Ey [3] [0,10,50,60,22,30,40,72,80,90] ?_;refine FO a Ee ?_;rintro ⟨VP,_,_⟩ a;obtain ⟨Cbp,a⟩:=gE a;have q:[116,97,115,107,32].length+VP.length<=maxLen:=by have:=Bg Cbp;(try dsimp only at this);unfold maxLen;omega
   have Btr:=q;(try simp only[go_sem] at Btr);obtain ⟨Bpq,a⟩:=gE a;have s:([116,97,115,107,32]++VP).length+[32].length<=maxLen:=by have:=Bg Bpq;(try dsimp only at this);unfold maxLen;omega
   have Bf5:=s;(try simp only[go_sem] at Bf5);refine FO a Ee ?_;rintro ⟨Amc,_,_⟩ a;obtain ⟨Cbn,a⟩:=gE a;have t:(([116,97,115,107,32]++VP)++[32]).length+Amc.length<=maxLen:=by have:=Bg Cbn;(try dsimp only at this);unfold maxLen;omega
   have Btp:=t;(try simp only[go_sem] at Btp);exact zO a
 refine Ey [3] [0,10,50,60,22,30,40,72,80,90] ?_;refine FO a Ee ?_;rintro ⟨Py,_,_⟩ a;obtain ⟨Cbm,a⟩:=gE a;have u:[116,97,115,107,32].length+Py.length<=maxLen:=by have:=Bg Cbm;(try dsimp only at this);unfold maxLen;omega
 have Bto:=u;try simp only[go_sem] at Bto
 obtain ⟨Cbk,a⟩:=gE a;have v:([116,97,115,107,32]++Py).length+[32].length<=maxLen:=by have:=Bg Cbk;(try dsimp only at this);unfold maxLen;omega
 have Btm:=v;try simp only[go_sem] at Btm
 refine FO a Ee ?_;rintro ⟨Arf,_,_⟩ a;obtain ⟨Cbi,a⟩:=gE a;have w:(([116,97,115,107,32]++Py)++[32]).length+Arf.length<=maxLen:=by have:=Bg Cbi;(try dsimp only at this);unfold maxLen;omega
 have Btk:=w;try simp only[go_sem] at Btk
 exact zO a
abbrev Au:=List G9
def We(j:Nt)(m:Int)(l:Bool)(n:Int):Au×Aa×Int×Aa×Ab×Aj×Aj×Ad×Aa×Aa×Ag×Ao×Bool×Ax×Az×Int->Option ((Au×Aa×Int×Aa×Ab×Aj×Aj×Ad×Aa×Aa×Ag×Ao×Bool×Ax×Az×Int)⊕((Au×Aa×Int×Aa×Ab×Aj×Aj×Ad×Aa×Aa×Ag×Ao×Bool×Ax×Az×Int)))
 | (a,k,Mx,O8,b,Ls,RZ,YP,e,J9,f,g,i,Vd,Mw,QX)=>cond (QX<m) (cond (n=0) ((Di k Mx 16).bind λ (x43,x44,Mu)=>(P6 (⟨O8,b,YP,e,J9,f,g,i,Vd,Mw,Ls,RZ⟩:O5) x43).bind λ (x47,x48)=>(Di x44 Mu 10).bind λ (NF,UP,Va)=>cond (NF=0) ((ML UP Va j).bind λ (Sy,Bck,Amg)=>cond (a.length+1<10000000) ((IY j (⟨O8,b,YP,e,J9,f,g,i,Vd,Mw,Ls,RZ⟩:O5) (⟨1,0,0,Sy⟩:G9)).bind λ (OX,Amf,Bci)=>some (.inl ((a++[(⟨1,0,0,Sy⟩:G9)]),Bck,Amg,OX.CQ,OX.CR,OX.down,OX.up,OX.closed,OX.Dp,OX.C0,OX.CO,OX.CS,OX.C7,OX.CX,OX.CY,(i64.wrap (QX+1))))) none) (cond (QX<2) ((ML UP Va j).bind λ (Se,Arm,Bnb)=>cond (a.length+1<10000000) ((IY j (⟨O8,b,YP,e,J9,f,g,i,Vd,Mw,Ls,RZ⟩:O5) (⟨1,0,0,Se⟩:G9)).bind λ (NP,Arl,Bj3)=>some (.inl ((a++[(⟨1,0,0,Se⟩:G9)]),Arm,Bnb,NP.CQ,NP.CR,NP.down,NP.up,NP.closed,NP.Dp,NP.C0,NP.CO,NP.CS,NP.C7,NP.CX,NP.CY,(i64.wrap (QX+1))))) none) (cond x48 (cond (NF<3) ((Jk UP Va (⟨O8,b,YP,e,J9,f,g,i,Vd,Mw,Ls,RZ⟩:O5) l).bind λ (x92,x93,x94)=>cond (a.length+1<10000000) ((IY j (⟨O8,b,YP,e,J9,f,g,i,Vd,Mw,Ls,RZ⟩:O5) x92).bind λ (Sv,x98,x99)=>some (.inl ((a++[x92]),x93,x94,Sv.CQ,Sv.CR,Sv.down,Sv.up,Sv.closed,Sv.Dp,Sv.C0,Sv.CO,Sv.CS,Sv.C7,Sv.CX,Sv.CY,(i64.wrap (QX+1))))) none) (cond (a.length+1<10000000) ((IY j (⟨O8,b,YP,e,J9,f,g,i,Vd,Mw,Ls,RZ⟩:O5) x47).bind λ (x88,x89,x90)=>some (.inl ((a++[x47]),UP,Va,x88.CQ,x88.CR,x88.down,x88.up,x88.closed,x88.Dp,x88.C0,x88.CO,x88.CS,x88.C7,x88.CX,x88.CY,(i64.wrap (QX+1))))) none)) (cond (NF<6) ((ML UP Va j).bind λ (x77,x78,x79)=>cond (a.length+1<10000000) ((IY j (⟨O8,b,YP,e,J9,f,g,i,Vd,Mw,Ls,RZ⟩:O5) (⟨1,0,0,x77⟩:G9)).bind λ (ZH,x83,x84)=>some (.inl ((a++[(⟨1,0,0,x77⟩:G9)]),x78,x79,ZH.CQ,ZH.CR,ZH.down,ZH.up,ZH.closed,ZH.Dp,ZH.C0,ZH.CO,ZH.CS,ZH.C7,ZH.CX,ZH.CY,(i64.wrap (QX+1))))) none) (cond (NF<3) ((Jk UP Va (⟨O8,b,YP,e,J9,f,g,i,Vd,Mw,Ls,RZ⟩:O5) l).bind λ (x68,U9,x70)=>cond (a.length+1<10000000) ((IY j (⟨O8,b,YP,e,J9,f,g,i,Vd,Mw,Ls,RZ⟩:O5) x68).bind λ (Kd,x74,x75)=>some (.inl ((a++[x68]),U9,x70,Kd.CQ,Kd.CR,Kd.down,Kd.up,Kd.closed,Kd.Dp,Kd.C0,Kd.CO,Kd.CS,Kd.C7,Kd.CX,Kd.CY,(i64.wrap (QX+1))))) none) ((Jk UP Va (⟨O8,b,YP,e,J9,f,g,i,Vd,Mw,Ls,RZ⟩:O5) l).bind λ (x59,x60,x61)=>cond (a.length+1<10000000) ((IY j (⟨O8,b,YP,e,J9,f,g,i,Vd,Mw,Ls,RZ⟩:O5) x59).bind λ (Ud,x65,x66)=>some (.inl ((a++[x59]),x60,x61,Ud.CQ,Ud.CR,Ud.down,Ud.up,Ud.closed,Ud.Dp,Ud.C0,Ud.CO,Ud.CS,Ud.C7,Ud.CX,Ud.CY,(i64.wrap (QX+1))))) none)))))) (some (.inr (a,k,Mx,O8,b,Ls,RZ,YP,e,J9,f,g,i,Vd,Mw,QX)))) (some (.inr (a,k,Mx,O8,b,Ls,RZ,YP,e,J9,f,g,i,Vd,Mw,QX)))
def Ql(b:Aa)(e:Int)(a:Nt)(f:Int)(g:Bool):Option (Au×Aa×Int):=
 (SQ a).bind λ (x1,x2)=>(C9 (We a f g x2) ([],b,e,x1.CQ,x1.CR,x1.down,x1.up,x1.closed,x1.Dp,x1.C0,x1.CO,x1.CS,x1.C7,x1.CX,x1.CY,0)).bind (λ (Bnt,Bns,Bnr,Br9,Br8,v124,Bnq,Br7,v127,Br6,Bnp,v130,v131,Bxt,Bj8,v134)=>some (Bnt,Bns,Bnr))
theorem Ao6{s u f g i r}(a:Ql s u f g i=some r):
   Rq 8 [.ptr 1000000 0,.agg f.c,iD g,bD i] [(1000000,.box [sD (CT s),iD u])] [(1000000,.box [sD (CT r.2.1),iD r.2.2])] (sD (E5 r.1)):=by
 refine EA func8 Bkn ?_;unfold Ql at a;refine Ec a Arp ?_;rintro ⟨_,I⟩ a;obtain ⟨v,p,a⟩:=bE a;refine A ?_;refine EX p (λ q=>⟨[(0,.ptr 1000000 0),(2,iD g),(3,bD i),(5,.ptr 5 0),(9,.ptr 9 0),(10,iD I),(11,rD 72 q.1),(12,iD q.2.2.2.2.2.2.2.2.2.2.2.2.2.2.2)],[(5,.box f.c),(9,.box [sD (CT q.2.2.2.1),sD (DA q.2.2.2.2.1),sD (Dn q.2.2.2.2.2.2.2.1),sD (CT q.2.2.2.2.2.2.2.2.1),sD (CT q.2.2.2.2.2.2.2.2.2.1),sD (Ed q.2.2.2.2.2.2.2.2.2.2.1),sD (DF q.2.2.2.2.2.2.2.2.2.2.2.1),bD q.2.2.2.2.2.2.2.2.2.2.2.2.1,sD (Ek q.2.2.2.2.2.2.2.2.2.2.2.2.2.1),sD (ED q.2.2.2.2.2.2.2.2.2.2.2.2.2.2.1),sD (Da q.2.2.2.2.2.1),sD (Da q.2.2.2.2.2.2.1)]),(72,.arr 49 4 (E5 q.1)),(1000000,.box [sD (CT q.2.1),iD q.2.2.1])],82⟩) ((Wk.nil (t:=11) (q:=72) (sz:=4) 49 rfl rfl AV).trans WL) ?_;rintro ⟨w,x,Mx,O8,y,Ls,RZ,YP,z,J9,B,E,H,Vd,Mw,QX⟩ _ D6 Aaw;rw[We.eq_1] at D6;obtain ⟨_,D6⟩ | ⟨_,D6⟩:=cK D6
 . cases kR D6;exact zP a
 obtain ⟨_,D6⟩ | ⟨_,D6⟩:=cK D6
 . cases kR D6;exact zP a
 refine Ey [9] [0,10,71,22,32,40,50,60,82,90] ?_;refine Sc D6 Dy ?_;rintro ⟨_,_,_⟩ D6;refine Sc D6 Ams ?_;rintro ⟨_,_⟩ D6;refine Fy D6 Dy ?_;rintro ⟨_,_,_⟩ D6;obtain ⟨_,D6⟩ | ⟨_,D6⟩:=cK D6
 . obtain ⟨_,D6⟩ | ⟨_,D6⟩:=cK D6
   . obtain ⟨_,D6⟩ | ⟨_,D6⟩:=cK D6
     . obtain ⟨_,D6⟩ | ⟨_,D6⟩:=cK D6
       . obtain ⟨_,D6⟩ | ⟨_,D6⟩:=cK D6
         . refine Fy D6 Rr ?_;rintro ⟨_,_,_⟩ D6;obtain ⟨k,D6⟩:=gK D6;refine He k ?_;refine Fy D6 Kf ?_;rintro ⟨Ud,_,_⟩ D6;refine A ?_;exact Aaw _ _ (kI D6) ((Wk.EC (id:=9) (j:=10) (q:=20077) (sz:=1) (e:=134) (es:=Da Ud.down) rfl AY rfl).trans ((Wk.EC (id:=9) (j:=11) (q:=30077) (sz:=1) (e:=134) (es:=Da Ud.up) rfl AY rfl).trans ((Wk.EC (id:=9) (j:=9) (q:=10077) (sz:=5) (e:=121) (es:=ED Ud.CY) rfl AY rfl).trans WL)))
         refine Fy D6 Rr ?_;rintro ⟨_,_,_⟩ D6;obtain ⟨l,D6⟩:=gK D6;refine He l ?_;refine Fy D6 Kf ?_;rintro ⟨Kd,_,_⟩ D6;refine A ?_;exact Aaw _ _ (kI D6) ((Wk.EC (id:=9) (j:=10) (q:=20077) (sz:=1) (e:=134) (es:=Da Kd.down) rfl AY rfl).trans ((Wk.EC (id:=9) (j:=11) (q:=30077) (sz:=1) (e:=134) (es:=Da Kd.up) rfl AY rfl).trans ((Wk.EC (id:=9) (j:=9) (q:=10077) (sz:=5) (e:=121) (es:=ED Kd.CY) rfl AY rfl).trans WL)))
       refine Fy D6 Wf ?_;rintro ⟨_,_,_⟩ D6;obtain ⟨m,D6⟩:=gK D6;refine He m ?_;refine Fy D6 Kf ?_;rintro ⟨ZH,_,_⟩ D6;refine A ?_;exact Aaw _ _ (kI D6) ((Wk.EC (id:=9) (j:=10) (q:=20077) (sz:=1) (e:=134) (es:=Da ZH.down) rfl AY rfl).trans ((Wk.EC (id:=9) (j:=11) (q:=30077) (sz:=1) (e:=134) (es:=Da ZH.up) rfl AY rfl).trans ((Wk.EC (id:=9) (j:=9) (q:=10077) (sz:=5) (e:=121) (es:=ED ZH.CY) rfl AY rfl).trans WL)))
     obtain ⟨_,D6⟩ | ⟨_,D6⟩:=cK D6
     . obtain ⟨n,D6⟩:=gK D6;refine He n ?_;refine Fy D6 Kf ?_;rintro ⟨b,_,_⟩ D6;refine A ?_;exact Aaw _ _ (kI D6) ((Wk.EC (id:=9) (j:=10) (q:=20077) (sz:=1) (e:=134) (es:=Da b.down) rfl AY rfl).trans ((Wk.EC (id:=9) (j:=11) (q:=30077) (sz:=1) (e:=134) (es:=Da b.up) rfl AY rfl).trans ((Wk.EC (id:=9) (j:=9) (q:=10077) (sz:=5) (e:=121) (es:=ED b.CY) rfl AY rfl).trans WL)))
     refine Fy D6 Rr ?_;rintro ⟨_,_,_⟩ D6;obtain ⟨o,D6⟩:=gK D6;refine He o ?_;refine Fy D6 Kf ?_;rintro ⟨Sv,_,_⟩ D6;refine A ?_;exact Aaw _ _ (kI D6) ((Wk.EC (id:=9) (j:=10) (q:=20077) (sz:=1) (e:=134) (es:=Da Sv.down) rfl AY rfl).trans ((Wk.EC (id:=9) (j:=11) (q:=30077) (sz:=1) (e:=134) (es:=Da Sv.up) rfl AY rfl).trans ((Wk.EC (id:=9) (j:=9) (q:=10077) (sz:=5) (e:=121) (es:=ED Sv.CY) rfl AY rfl).trans WL)))
   refine Fy D6 Wf ?_;rintro ⟨_,_,_⟩ D6;obtain ⟨Bps,D6⟩:=gK D6;refine He Bps ?_;refine Fy D6 Kf ?_;rintro ⟨NP,_,_⟩ D6;refine A ?_;exact Aaw _ _ (kI D6) ((Wk.EC (id:=9) (j:=10) (q:=20077) (sz:=1) (e:=134) (es:=Da NP.down) rfl AY rfl).trans ((Wk.EC (id:=9) (j:=11) (q:=30077) (sz:=1) (e:=134) (es:=Da NP.up) rfl AY rfl).trans ((Wk.EC (id:=9) (j:=9) (q:=10077) (sz:=5) (e:=121) (es:=ED NP.CY) rfl AY rfl).trans WL)))
 refine Fy D6 Wf ?_;rintro ⟨_,_,_⟩ D6;obtain ⟨Cbx,D6⟩:=gK D6;refine He Cbx ?_;refine Fy D6 Kf ?_;rintro ⟨OX,_,_⟩ D6;refine A ?_;exact Aaw _ _ (kI D6) ((Wk.EC (id:=9) (j:=10) (q:=20077) (sz:=1) (e:=134) (es:=Da OX.down) rfl AY rfl).trans ((Wk.EC (id:=9) (j:=11) (q:=30077) (sz:=1) (e:=134) (es:=Da OX.up) rfl AY rfl).trans ((Wk.EC (id:=9) (j:=9) (q:=10077) (sz:=5) (e:=121) (es:=ED OX.CY) rfl AY rfl).trans WL)))
end Go.Am
end
noncomputable section
namespace Go.Am
open Go
open Go Go.Proofs
open Go.IntKind (i64)
open Tryz
set_option maxRecDepth 100000
set_option linter.unusedVariables false
set_option linter.unusedSimpArgs false
set_option maxHeartbeats 2000000
theorem Bhg(x)(h0:0<=x)(h:x<10):TZ x=[UInt8.ofNat (48+x.toNat)]:=by
 unfold TZ;rw[if_neg AQ,Kq x.toNat AQ]
def DT{α:Type}(x:Option α)(Q:α->Prop):Prop:=∃a,x=some a/\Q a
theorem tS{α:Type}{a}{Q:α->Prop}(h:Q a):DT (some a) Q:=⟨a,rfl,h⟩
theorem tB{α β:Type}{x}{f}{P:α->Prop}{Q:β->Prop}(h:DT x P)(k:∀a,P a->DT (f a) Q):DT (Option.bind x f) Q:=by
 obtain ⟨a,rfl,b⟩:=h;exact k a b
theorem tW{α:Type}{x}{P Q:α->Prop}(h:DT x P)(k:∀a,P a->Q a):DT x Q:=by
 obtain ⟨a,rfl,b⟩:=h;exact ⟨a,rfl,k a b⟩
theorem tC{α:Type}{c}{a b}{Q:α->Prop}(e:c=true->DT a Q)(h2:c=false->DT b Q):DT (cond c a b) Q:=by
 cases c
 . exact h2 rfl
 . exact e rfl
theorem tD{α:Type}{p:Prop}[Decidable p]{a b}{Q:α->Prop}(e:p->DT a Q)(h2:¬p->DT b Q):DT (cond (decide p) a b) Q:=by
 by_cases h:p
 . simp only[h,Cy,Bm];exact e h
 . simp only[h,decide_false,Bl];exact h2 h
theorem tG{α:Type}{p:Prop}[Decidable p]{a}{Q:α->Prop}(h:p)(k:p->DT a Q):DT (cond (decide p) a none) Q:=by
 simp only[h,Cy,Bm];exact k h
theorem tI{α β:Type}{l}{i:Int}{f:α->Option β}{Q:β->Prop}(h:0<=i/\i<(l.length:Int))(k:∀x,l[i.toNat]?=some x->x∈l->DT (f x) Q):DT (Option.bind (CU l i) f) Q:=by
 have a:i.toNat<l.length:=AQ;have h2:CU l i=some l[i.toNat]:=by unfold CU;rw[if_pos h.1];simp[a]
 rw[h2];exact k _ (by simp[a]) (Ca a)
theorem tA{α β:Type}{n}{l:List α}{i:Int}{f:α->Option β}{Q:β->Prop}(a:l.length=n)(h:0<=i/\i<(n:Int))(k:∀x,l[i.toNat]?=some x->x∈l->DT (f x) Q):DT (Option.bind (Adn n l i) f) Q:=by
 unfold Adn;rw[if_pos a];exact tI AQ k
theorem tL{σ ε:Type}{step}{a}{Q:ε->Prop}(I:σ->Prop)(μ:σ->Nat)(h0:I a)
   (i:∀s,I s->DT (step s) (λ y=>match y with | .inl b=>I b/\μ b<μ s | .inr e=>Q e)):DT (C9 step a) Q:=by
 obtain ⟨e,f,h2⟩:=Ax9 I μ Q (λ s h=>by
   obtain ⟨y,j,g⟩:=i s h;exact ⟨y,j,g⟩) a h0
 exact ⟨e,f,h2⟩
theorem C2{n}(a:-9223372036854775808<=n)(h2:n<9223372036854775808):i64.wrap n=n:=by
 unfold IntKind.wrap;simp[IntKind.bits,IntKind.signed];omega
theorem ES{α:Type}{P:α->Prop}{l:List α}{i}{v}(h:∀x∈l,P x)(b:P v):∀x∈l.set i v,P x:=by
 intro x hx;rcases List.mem_or_eq_of_mem_set hx with a | a
 . exact h x a
 . rw[a];exact b
theorem Es{α:Type}{P:α->Prop}{l}{v}(h:∀x∈l,P x)(b:P v):∀x∈l++[v],P x:=by
 intro x hx;rcases BD.1 hx with a | a
 . exact h x a
 . rw[BG.1 a];exact b
theorem all_nil{α:Type}{P:α->Prop}:∀x∈([]:List α),P x:=by intro x hx;cases hx
theorem ND{α:Type}{P:α->Prop}{v}(a:P v):∀x∈[v],P x:=by intro x hx;rw[BG.1 hx];exact a
theorem Pw{α:Type}{P:α->Prop}{l m:List α}(h:∀x∈l,P x)(b:∀x∈m,P x):∀x∈l++m,P x:=by
 intro x hx;rcases BD.1 hx with a | a
 . exact h x a
 . exact b x a
theorem Ar5{α:Type}{P:α->Prop}{l:List α}{n}(h:∀x∈l,P x):∀x∈l.take n,P x:=λ x hx=>h x (CA hx)
theorem Ar6{α:Type}{P:α->Prop}{l:List α}{n}(h:∀x∈l,P x):∀x∈l.drop n,P x:=λ x hx=>h x (List.mem_of_mem_drop hx)
theorem Fq{α:Type}{l:List α}{i}{x}(h:l[i]?=some x):i<l.length:=(Bn.1 h).1
theorem Fv{α:Type}{l:List α}{i}{x}(h:l[i]?=some x):l.take (i+1)=l.take i++[x]:=by rw[List.take_add_one,h];rfl
theorem EO{α:Type}{l}{i:Nat}{x:α}(h:l[i]?=some x):CU l (i:Int)=some x:=by rw[Be3,h]
theorem Akv{i}(h:0<=i):∃k:Nat,i=(k:Int):=⟨i.toNat,AQ⟩
theorem Awn{α β ε:Type}{step}{Q:ε->Prop}(l:List α)(g:α->List β)
   (b:∀(i:Nat) x,l[i]?=some x->step ((l.take i).flatMap g,(i:Int))=some (.inl ((l.take i).flatMap g++g x,(i:Int)+1))) (a:DT (step (l.flatMap g,(l.length:Int))) (λ y=>match y with | .inl _=>False | .inr e=>Q e)):DT (C9 step ([],0)) Q:=by
 refine tL (λ s=>∃i:Nat,i<=l.length/\s=((l.take i).flatMap g,(i:Int))) (λ s=>l.length - s.2.toNat) ⟨0,AQ,AT⟩ ?_;rintro s ⟨i,f,rfl⟩;by_cases h:i<l.length
 . have hx:l[i]?=some l[i]:=by simp[h]
   rw[b i _ hx];refine tS ?_;refine ⟨⟨i+1,h,?_⟩,?_⟩
   . rw[Fv hx,List.flatMap_append];simp
   . omega
 . obtain rfl:i=l.length:=AQ;rw[BE];exact tW a (by rintro (_ | e) h;exact h.elim;exact h)
theorem TA{α β:Type}(l:List α)(f:α->β):l.flatMap (λ x=>[f x])=l.map f:=by induction l<;>simp_all
theorem Aou{α:Type}(l:List α):l.flatMap (λ x=>[x])=l:=by induction l<;>simp_all
theorem TB{α:Type}(l:List α)(p:α->Bool):l.flatMap (λ x=>if p x then [x] else [])=l.filter p:=by
 induction l with
 | nil=>rfl
 | cons a l b=>simp only[List.flatMap_cons,Cm,b];split<;>simp
theorem Ate{α β:Type}(l:List α)(g:α->List β)(h:∀x,(g x).length<=1):(l.flatMap g).length<=l.length:=by
 induction l with
 | nil=>simp
 | cons a l b=>simp only[List.flatMap_cons,Bw,Br];have:=h a;omega
theorem Kb{α β:Type}(l:List α)(i)(g:α->List β)(h:∀x,(g x).length<=1):((l.take i).flatMap g).length<=l.length:=by
 have a:=Ate (l.take i) g h;simp only[BJ] at a;omega
theorem MF{ε α:Type}{step}{Q:ε->Prop}(l:List α)(P:Nat->Prop)(h0:P 0)
   (g:∀(i:Nat) x,l[i]?=some x->x∈l->P i->i<l.length->DT (step (i:Int)) (λ y=>match y with | .inl j=>j=(i:Int)+1/\P (i+1) | .inr e=>Q e))
   (f:P l.length->DT (step (l.length:Int)) (λ y=>match y with | .inl _=>False | .inr e=>Q e)):DT (C9 step 0) Q:=by
 refine tL (λ s=>∃i:Nat,i<=l.length/\s=(i:Int)/\P i) (λ s=>l.length - s.toNat) ⟨0,AQ,rfl,h0⟩ ?_;rintro s ⟨i,k,rfl,b⟩;by_cases h:i<l.length
 . have hx:l[i]?=some l[i]:=by simp[h]
   refine tW (g i _ hx (Ca h) b h) ?_;rintro (j | e) a
   . obtain ⟨rfl,a⟩:=a;exact ⟨⟨i+1,h,AT,a⟩,by simp only[Be];omega⟩
   . exact a
 . obtain rfl:i=l.length:=AQ;exact tW (f b) (by rintro (_ | e) h;exact h.elim;exact h)
theorem Mm(a0)(a1)(g:a0.length<=10000000):DT (HJ a0 a1) (λ r=>r=decide (a1∈a0)):=by
 unfold HJ;refine tB (MF (Q:=λ e=>match e with | .inl _=>a1∉a0 | .inr r=>r=true/\a1∈a0) a0 (λ i=>∀x∈a0.take i,x≠a1) AT ?_ ?_) ?_
 . intro i x hx b a f;refine tD (λ _=>?_) (λ h=>AQ);rw[EO hx,Bd];refine tD (λ e=>tS ⟨rfl,e ▸ b⟩) (λ e=>tS ⟨C2 AQ AQ,?_⟩);rw[Fv hx];exact Es a e
 . intro a;refine tD (λ h=>AQ) (λ _=>tS ?_);rw[BE] at a;exact λ b=>a _ b rfl
 . rintro (v | r) h
   . exact tS (by simp[h])
   . exact tS (by obtain ⟨rfl,h⟩:=h;simp[h])
theorem MD(a0)(a1)(b:a0.closed.length<=1000)(h2:a0.Dp.length<=1000)(f:a0.C0.length<=1000):DT (Jz a0 a1) (λ r=>r=⟨a0.closed,a0.Dp,a0.C0.filter (· != a1)⟩):=by
 unfold Jz;refine tG AQ λ _=>tG AQ λ _=>tB (Awn (Q:=λ e=>e.1=a0.C0.filter (· != a1)) a0.C0 (λ x=>if x != a1 then [x] else []) ?_ ?_) ?_
 . intro i x hx;have:=Fq hx;have a:i64.wrap ((i:Int)+1)=(i:Int)+1:=C2 AQ AQ;have hb:=Kb a0.C0 i (λ x=>if x != a1 then [x] else []) (by intro x;split<;>simp);rw[Q7.eq_1,EO hx,a,Bi (by omega:(i:Int)<((a0.C0.length:Nat):Int)),Bm,Bd];by_cases e:x=a1
   . simp[e]
   . rw[Bj e,Bl,Bi AQ,Bm];simp[e]
 . rw[Q7.eq_1,Bj AQ,Bl];exact tS (TB _ _)
 . rintro ⟨v,i⟩ h;exact tS (by rw[<-h])
structure SG(C B:Nat)(s:Me):Prop where
 cl:s.closed.length=C
 bl:s.Dp.length=C
 pn:s.C0.Nodup
 pr:∀x∈s.C0,0<=x/\x<(B:Int)
 pl:s.C0.length<=B
 bc:B<=C
 b24:B<=24
 O4:C<=48
theorem SG.filter{C B}{s}(h:SG C B s)(p:Int->Bool)(c)(b)(a:c.length=C)(hb:b.length=C):SG C B ⟨c,b,s.C0.filter p⟩:=
 ⟨a,hb,h.pn.sublist (List.filter_sublist),λ x hx=>h.pr x ((List.mem_filter.1 hx).1),by have:=List.length_filter_le p s.C0;have:=h.pl;simp only[];omega,h.bc,h.b24,h.O4⟩
theorem Bb{p:Prop}(h:p:=by simp only[];omega):p:=h
theorem Q6{C B}(a0)(a1 a2)(h:SG C B a0)(a:0<=a1/\a1<(C:Int)):DT (Kh a0 a1 a2) (λ r=>SG C B r/\r.C0=a0.C0.filter (· != a1)):=by
 have:=h.cl;have:=h.bl;have:=h.pl;have:=h.b24;have:=h.O4
 unfold Kh;refine tB (MD a0 a1 AQ AQ AQ) ?_;rintro x rfl;refine tI Bb λ x _ _=>tC (λ _=>tS ⟨h.filter _ _ _ h.cl h.bl,rfl⟩) (λ _=>tI Bb λ _ _ _=>tS ⟨h.filter _ _ _ ?_ ?_,rfl⟩)
 . simpa using h.cl
 . simpa using h.bl
theorem Ak4{C B}(a0)(a1)(h:SG C B a0)(a:0<=a1/\a1<(C:Int)):DT (N0 a0 a1) (λ r=>SG C B r):=by
 have:=h.cl;have:=h.bl;have:=h.pl;have:=h.b24;have:=h.O4
 unfold N0;refine tB (MD a0 a1 AQ AQ AQ) ?_;rintro x rfl;refine tI Bb λ x _ _=>(tI Bb λ _ _ _=>tS (h.filter _ _ _ ?_ ?_))
 . simpa using h.cl
 . simpa using h.bl
theorem G5{C B}(a0)(h:SG C B a0):DT (E0 a0) (λ r=>r.length=C):=by
 have:=h.cl;have:=h.pl;have:=h.O4;have:=h.bc
 unfold E0;refine tG AQ λ _=>tB (tL (Q:=λ e=>e.1.length=C) (λ s=>s.1.length=C/\0<=s.2/\s.2<=a0.C0.length) (λ s=>(a0.C0.length - s.2).toNat) ⟨h.cl,AQ,AQ⟩ ?_) ?_
 . rintro ⟨v,i⟩ ⟨a,h2,b⟩;simp only[] at a h2 b;refine tD (λ _=>tI AQ λ x hx f=>?_) (λ _=>tS a);have:=h.pr x f;refine tI AQ λ _ _ _=>tS ?_;rw[C2 AQ AQ];simp only[Bv];omega
 . rintro ⟨v,i⟩ h;exact tS h
def cf(o:Ad):Nat:=o.count false
theorem Bhs{o}{i}(h:o[i]?=some false):cf (o.set i true)+1=cf o:=by
 have a:=Fq h;have h2:o[i]=false:=by rw[Bp a] at h;exact Bf h
 have b:0<o.count false:=List.count_pos_iff.2 (h2 ▸ Ca a);unfold cf;rw[List.count_set a,h2];simp;omega
theorem Bu6(o):cf o<=o.length:=List.count_le_length
structure GW(n:Nat)(g:Ab):Prop where
 gl:g.length=n
 gr:∀row∈g,row.length<=24/\∀x∈row,0<=x/\x<(n:Int)
 g24:n<=24
theorem AR{p:Prop}(h:p:=by (try dsimp only at*);omega):p:=h
theorem AU{p:Prop}(h:p:=by (try dsimp only at*);(try simp only[List.length_set,List.length_append,List.length_cons,List.length_nil,List.length_replicate,List.length_take,List.length_drop,List.length_map] at*);omega):p:=h
theorem Rl{n}(a0)(a1)(a2)(h:GW n a0)(R:a1.length=n)(h2:0<=a2/\a2<(n:Int)):DT (MG a0 a1 a2) (λ r=>r.length=n):=by
 have v:=h.g24;have z:=h.gl
 unfold MG;refine tG AQ λ _=>tI AQ λ s _ _=>tC (λ _=>tS (by simp[h.gl])) (λ _=>tI AW λ m B _=>?_);have g:(List.replicate a0.length false)[a2.toNat]?=some false:=by rw[CC];simp;omega
 refine tL (λ s=>s.1.length+cf s.2<=n/\s.2.length=n/\∀x∈s.1,0<=x/\x<(n:Int)) (λ s=>s.1.length+cf s.2) ⟨?_,by simp[h.gl],ND h2⟩ ?_
 . have:=Bhs g;have w:=Bu6 (List.replicate a0.length false);simp only[B1] at w;simp only[Br,Bz];omega
 . rintro ⟨t,o⟩ ⟨E,q,u⟩;cases t with
   | nil=>exact tS q
   | cons x t=>
     have hx:=u x (List.mem_cons_self);have p:a0[x.toNat]?=some (a0.getD x.toNat []):=by rw[Bu,Bp AQ];rfl
     have El:=h.gr _ (Bt p);simp only[Br] at E;refine tB (P:=λ e=>e.1.length+cf e.2.1+1<=t.length+1+cf o/\e.2.1.length=n/\∀x∈e.1,0<=x/\x<(n:Int)) (tL (λ s=>s.1.length+cf s.2.1+1<=t.length+1+cf o/\s.2.1.length=n/\(∀x∈s.1,0<=x/\x<(n:Int))/\0<=s.2.2/\s.2.2<=(a0.getD x.toNat []).length) (λ s=>((a0.getD x.toNat []).length - s.2.2).toNat) ⟨AR,q,λ y k=>u y (List.mem_cons_of_mem _ k),AR,AR⟩ ?_) ?_
     . rintro ⟨N,K,i⟩ ⟨f,b,a,H,I⟩;simp only[] at f b a H I;refine tI AQ λ row Aoi _=>?_;obtain rfl:a0.getD x.toNat []=row:=by rw[p] at Aoi;exact Bf Aoi
       refine tD (λ _=>tI AQ λ y _ k=>?_) (λ _=>tS ⟨f,b,a⟩);have l:=El.2 y k;have S:i64.wrap (i+1)=i+1:=C2 AQ AQ;refine tI AQ λ s _ _=>tC (λ _=>tS ⟨⟨f,b,a,AR,AR⟩,AR⟩) (λ _=>tI AQ λ m g _=>tC (λ _=>tS ⟨⟨f,b,a,AR,AR⟩,AR⟩) (λ j=>?_));subst j;have Q:=Bhs g;refine tG AQ λ _=>tS ⟨⟨AU,AU,Es a l,AR,AR⟩,AR⟩
     . rintro ⟨N,K,T⟩ ⟨f,b,a⟩;exact tS ⟨⟨AR,b,a⟩,AU⟩
theorem Y4:∀(n:Nat) (l:Aa),l.Nodup->(∀x∈l,0<=x/\x<(n:Int))->l.length<=n
 | 0,l,_,h=>by
   cases l with
   | nil=>simp
   | cons a l=>have:=h a List.mem_cons_self;omega
 | n+1,l,b,h=>by
   have j:=Y4 n (l.filter (· != (n:Int))) (b.sublist List.filter_sublist) (λ x hx=>by
     have:=List.mem_filter.1 hx;have h2:=h x this.1;have k:x≠(n:Int):=by simpa using this.2
     omega)
   have m:l.length<=(l.filter (· != (n:Int))).length+1:=by
     have:∀l:Aa,l.Nodup->l.length<=(l.filter (· != (n:Int))).length+1:=by
       intro l
       induction l with
       | nil=>intro _;simp
       | cons a l i=>
         intro b;have JT:=List.nodup_cons.1 b;by_cases e:a=(n:Int)
         . have:l.filter (· != (n:Int))=l:=by
             rw[List.filter_eq_self];intro y g;have:y≠(n:Int):=λ f=>JT.1 (e ▸ f ▸ g)
             simpa using this
           simp[Cm,e,this]
         . have:=i JT.2;simp[Cm,e];omega
     exact this l b
   omega
structure LK(C U:Nat)(CQ:Aa)(CR:Ab):Prop where
 ol:CQ.length=C
 ql:CR.length=C
 O4:C<=48
 u8:U<=8
 ow:∀o∈CQ,-1<=o/\o<(U:Int)
 qr:∀row∈CR,∀x∈row,0<=x/\x<(U:Int)
 nd:CR.flatten.Nodup
 no:∀(i:Nat) o row,CQ[i]?=some o->CR[i]?=some row->o∉row
theorem Zg{α:Type}(q:List (List α))(i):List.Sublist (q.take i).flatten q.flatten:=by
 conv=>rhs;rw[<-List.take_append_drop i q,List.flatten_append]
 exact List.sublist_append_left _ _
theorem Pn{α:Type}{q:List (List α)}{i}{row}(h:q[i]?=some row):(q.take (i+1)).flatten=(q.take i).flatten++row:=by rw[Fv h];simp
theorem LK.row{C U}{o}{q}(h:LK C U o q){row}(b:row∈q):row.Nodup/\row.length<=8:=by
 have a:row.Nodup:=h.nd.sublist (List.sublist_flatten_of_mem b);have:=Y4 U row a (h.qr row b);have:=h.u8;exact ⟨a,AQ⟩
def SE(seen:Ad)(l:Aa):Prop:=seen.length=8/\∀j:Nat,j<8->seen[j]?=some (decide ((j:Int)∈l))
theorem SE.snoc{seen}{l}(h:SE seen l){x}(h0:0<=x)(f:x<8):SE (seen.set x.toNat true) (l++[x]):=by
 obtain ⟨k,rfl⟩:=Akv h0;refine ⟨by rw[Bv];exact h.1,λ j b=>?_⟩;rw[BH];have:=h.1;by_cases e:k=j
 . subst e;simp;omega
 . have a:¬((j:Int)=(k:Int)):=AQ;simp[e,h.2 j b,a]
theorem Q9{C U}{o}{q}(h:LK C U o q):DT (Ki ⟨o,q⟩) (λ r=>r=true):=by
 have Q:=h.ol;have R:=h.ql;have NN:=h.O4;have T:=h.u8
 unfold Ki;dsimp only;refine tD (λ h=>AQ) λ _=>tD (λ _=>?_) (λ h=>AQ);refine tB (P:=λ e=>∃s,e= .inl s) (tL (λ s=>∃i:Nat,i<=C/\s.2=(i:Int)/\SE s.1 (q.take i).flatten) (λ s=>C - s.2.toNat) ⟨0,AQ,rfl,AT,λ j N=>by rw[CC,if_pos N];simp⟩ ?_) ?_;rotate_left
 . rintro _ ⟨⟨a,b⟩,rfl⟩;exact tS rfl
 rintro ⟨seen,_⟩ ⟨i,V,rfl,f⟩;dsimp only at f ⊢;rw[SW.eq_1];dsimp only;refine tD (λ Dv=>tI AQ λ x hx n=>?_) (λ _=>tS ⟨_,rfl⟩);rw[Be] at hx;have Kl:=h.ow x n;obtain ⟨row,El⟩:∃row,q[i]?=some row:=⟨_,Bp AQ⟩;have g:=Bt El;have S:=h.row g;refine tD (λ h=>AQ) λ _=>tD (λ h=>AQ) λ _=>?_;refine tB (P:=λ e=>∃s,e= .inl s/\SE s.1 (q.take (i+1)).flatten) (tL (λ s=>∃k:Nat,k<=row.length/\s.2=(k:Int)/\SE s.1 ((q.take i).flatten++row.take k)) (λ s=>row.length - s.2.toNat) ⟨0,AQ,rfl,by simpa using f⟩ ?_) ?_
 . rintro ⟨seen,_⟩ ⟨k,W,rfl,f⟩;dsimp only at f ⊢;rw[SX.eq_1];dsimp only;rw[EO El,Bd];refine tD (λ Dv=>tI AQ λ y p l=>?_) (λ K=>tS ⟨_,rfl,?_⟩)
   . rw[Be] at p;have t:=h.qr row g y l;have m:((q.take i).flatten++row.take k++[y]).Nodup:=by
       have H:List.Sublist ((q.take i).flatten++row.take (k+1)) q.flatten:=by
         refine List.Sublist.trans ?_ (Zg q (i+1));rw[Pn El];exact List.Sublist.append (List.Sublist.refl _) (List.take_sublist _ _)
       rw[Fv p,<-Cw] at H;exact h.nd.sublist H
     have v:y∉(q.take i).flatten++row.take k:=by
       intro I;have:=(List.nodup_append.1 m).2.2 y I y AT;exact this rfl
     refine tD (λ h=>AQ) λ _=>tD (λ h=>AQ) λ _=>tA f.1 AQ λ z w _=>?_;have B:=f.2 y.toNat AQ;rw[B] at w;have u:((y.toNat:Nat):Int)=y:=AQ;rw[u] at w;have E:z=false:=by rw[<-Bf w];simp[v]
     subst E;refine tC (λ h=>by cases h) λ _=>tD (λ e=>?_) λ _=>tS ⟨⟨k+1,AQ,C2 AQ AQ,?_⟩,?_⟩
     . exact absurd l (e ▸ h.no i x row hx El)
     . rw[Fv p,<-Cw];exact f.snoc t.1 AQ
     . dsimp only;rw[C2 AQ AQ];omega
   . have:k=row.length:=AQ;subst this;rw[Pn El];rwa[BE] at f
 . rintro _ ⟨⟨s,k⟩,rfl,f⟩;exact tS ⟨⟨i+1,AQ,C2 AQ AQ,f⟩,by dsimp only;rw[C2 AQ AQ];omega⟩
theorem An0(a0)(b:a0.CQ.length<=1000)(h2:a0.CR.length<=1000)(a:∀r∈a0.CR,r.length<=1000):DT (H9 a0) (λ r=>r=a0):=by
 unfold H9;refine tG AQ λ _=>tB (Awn (Q:=λ e=>e.1=a0.CR) a0.CR (λ x=>[x]) ?_ ?_) ?_
 . intro i x hx;have:=Fq hx;have:=a x (Bt hx);have hb:=Kb a0.CR i (λ x=>[x]) (by intro x;simp);rw[Ra.eq_1,EO hx,C2 AQ AQ,Bi (by omega:(i:Int)<((a0.CR.length:Nat):Int)),Bm,Bd,Bi AQ,Bm,Bi AQ,Bm]
 . rw[Ra.eq_1,Bj AQ,Bl];exact tS (Aou _)
 . rintro ⟨v,i⟩ h;dsimp only at h;subst h;exact tS rfl
theorem AS{p:Prop}(h:p:=by dsimp only;omega):p:=h
theorem LK.copy{C U}{o}{q}(h:LK C U o q):DT (H9 ⟨o,q⟩) (λ r=>r=⟨o,q⟩):=by
 have:=h.ol;have:=h.ql;have:=h.O4
 exact An0 _ AS AS (λ r a=>by have:=(h.row a).2;omega)
theorem LS{C U}{o}{q}(h:LK C U o q)(a1):DT (K8 ⟨o,q⟩ a1) (λ r=>(r=-1/\∀row∈q,a1∉row)∨(0<=r/\r<(C:Int)/\∃row,q[r.toNat]?=some row/\a1∈row)):=by
 have f:=h.ql;have NN:=h.O4
 unfold K8;refine tB (MF (Q:=λ e=>match e with | .inl _=>∀row∈q,a1∉row | .inr r=>0<=r/\r<(C:Int)/\∃row,q[r.toNat]?=some row/\a1∈row) q (λ i=>∀row∈q.take i,a1∉row) AT ?_ ?_) ?_
 . intro i x hx b a g;rw[Xm.eq_1];dsimp only;refine tD (λ _=>?_) (λ h=>AQ);rw[EO hx,Bd];refine tB (Mm x a1 (by have:=(h.row b).2;omega)) ?_;rintro _ rfl;refine tD (λ e=>tS ⟨AQ,AQ,x,by simpa using hx,e⟩) (λ e=>tS ⟨C2 AQ AQ,?_⟩);rw[Fv hx];exact Es a e
 . intro a;rw[Xm.eq_1];dsimp only;refine tD (λ h=>AQ) (λ _=>tS ?_);rwa[BE] at a
 . rintro (v | r) h
   . exact tS (Or.inl ⟨rfl,h⟩)
   . exact tS (Or.inr h)
theorem Xh{C U}{o}{q}(h:LK C U o q)(a1 a2)(b:0<=a1/\a1<8)(h2:0<=a2/\a2<(C:Int)):DT (LO ⟨o,q⟩ a1 a2) (λ r=>r=0):=by
 have a:=h.ol;unfold LO;dsimp only;refine tB (Q9 h) ?_;rintro _ rfl;refine tC (λ _=>?_) (λ h=>by cases h);refine tD (λ h=>AQ) λ _=>tD (λ h=>AQ) λ _=>tD (λ h=>AQ) λ _=>tD (λ h=>AQ) λ _=>tS rfl
theorem Ac3{C U}{o}{q}(h:LK C U o q)(a1)(a:0<=a1/\a1<8):DT (Qa ⟨o,q⟩ a1) (λ r=>r=0):=by
 unfold Qa;refine tB (Q9 h) ?_;rintro _ rfl;refine tC (λ _=>?_) (λ h=>by cases h);refine tD (λ h=>AQ) λ _=>tD (λ h=>AQ) λ _=>tS rfl
theorem LK.ownRow{C U}{o}{q}(h:LK C U o q)(o')(a:o'.length=o.length)(h2:∀x∈o',-1<=x/\x<(U:Int))(b:∀(i:Nat) x row,o'[i]?=some x->q[i]?=some row->x∉row):LK C U o' q:=
 ⟨a.trans h.ol,h.ql,h.O4,h.u8,h2,h.qr,h.nd,b⟩
theorem N3{C U}{o}{q}(h:LK C U o q)(a1)(f:0<=a1/\a1<(C:Int))(h2:o[a1.toNat]?≠some (-1)):DT (Iv ⟨o,q⟩ a1) (λ r=>r=(⟨o.set a1.toNat (-1),q⟩,0)/\LK C U (o.set a1.toNat (-1)) q):=by
 have j:=h.ol;unfold Iv;dsimp only;refine tB (Xh h 0 a1 AQ f) ?_;rintro _ rfl;refine tD (λ _=>tI AQ λ x hx _=>tD (λ e=>?_) λ _=>tB h.copy ?_) (λ h=>AQ)
 . exact absurd (e ▸ hx) h2
 . rintro _ rfl;refine tI AS λ _ _ _=>tS ⟨rfl,h.ownRow _ AT (ES h.ow AQ) ?_⟩;intro i x row a b;rw[BH] at a;split at a
   . split at a
     . intro g;have:=h.qr row (Bt b) x g;have:=Bf a;omega
     . cases a
   . exact h.no i x row a b
theorem Amk(a0)(a1)(b:a0.length<=1000):DT (IC a0 a1) (λ r=>r=a0.filter (· != a1)):=by
 unfold IC;refine tB (Awn (Q:=λ e=>e.1=a0.filter (· != a1)) a0 (λ x=>if x != a1 then [x] else []) ?_ ?_) ?_
 . intro i x hx;have:=Fq hx;have a:i64.wrap ((i:Int)+1)=(i:Int)+1:=C2 AQ AQ;have hb:=Kb a0 i (λ x=>if x != a1 then [x] else []) (by intro x;split<;>simp);rw[Jw.eq_1,EO hx,a,Bi (by omega:(i:Int)<((a0.length:Nat):Int)),Bm,Bd];by_cases e:x=a1
   . simp[e]
   . rw[Bj e,Bl,Bi AQ,Bm];simp[e]
 . rw[Jw.eq_1,Bj AQ,Bl];exact tS (TB _ _)
 . rintro ⟨v,i⟩ h;exact tS h
theorem R9{α:Type}:∀(q:List (List α)) (i:Nat) (row Aco:List α),q[i]?=some row->List.Sublist Aco row->List.Sublist (q.set i Aco).flatten q.flatten
 | [],i,_,_,h,_=>by simp at h
 | a::q,0,row,Aco,h,b=>by
   simp only[BF,Bo] at h;subst h;exact List.Sublist.append b (List.Sublist.refl _)
 | a::q,i+1,row,Aco,h,b=>by
   exact List.Sublist.append (List.Sublist.refl _) (R9 q i row Aco h b)
theorem QA{α:Type}:∀(q:List (List α)) (i:Nat) (row:List α) (x:α),q[i]?=some row->List.Perm (q.set i (row++[x])).flatten (x::q.flatten)
 | [],i,_,_,h=>by simp at h
 | a::q,0,row,x,h=>by
   simp only[BF,Bo] at h;subst h;simp only[BT,List.flatten_cons,Cw];exact List.perm_middle
 | a::q,i+1,row,x,h=>by
   exact ((QA q i row x h).append_left a).trans List.perm_middle
theorem LK.less{C U}{o}{q}(h:LK C U o q)(i)(row Aco)(a:q[i]?=some row)(b:List.Sublist Aco row):LK C U o (q.set i Aco):=by
 refine ⟨h.ol,by rw[Bv];exact h.ql,h.O4,h.u8,h.ow,ES h.qr (λ x hx=>h.qr row (Bt a) x (b.subset hx)),h.nd.sublist (R9 q i row Aco a b),?_⟩;intro j x r f JH;rw[BH] at JH;split at JH
 . rename_i e;subst e;split at JH
   . cases JH;exact λ g=>h.no i x row f a (b.subset g)
   . cases JH
 . exact h.no j x r f JH
theorem Ak7{C U}{o}{q}(h:LK C U o q)(a1)(e:0<=a1/\a1<8):DT (LQ ⟨o,q⟩ a1) (λ r=>(r.2.2≠0/\∀row∈q,a1∉row)∨(r.2.2=0/\r.1.CQ=o/\LK C U o r.1.CR/\0<=r.2.1/\r.2.1<(C:Int))):=by
 have i:=h.ql;unfold LQ;refine tB (Ac3 h a1 e) ?_;rintro _ rfl;refine tD (λ _=>tB (LS h a1) ?_) (λ h=>AQ);rintro x hx;refine tD (λ Dv=>tS (Or.inl ⟨AS,?_⟩)) (λ g=>tB h.copy ?_)
 . rcases hx with ⟨_,hx⟩ | ⟨a,_⟩
   . exact hx
   . omega
 . rintro _ rfl;rcases hx with ⟨a,hx⟩ | ⟨a,f,row,El,j⟩
   . omega
   . refine tI AS λ Bo5 Bm6 b=>?_;obtain rfl:row=Bo5:=by rw[El] at Bm6;exact Bf Bm6
     refine tB (Amk row a1 (by have:=(h.row b).2;omega)) ?_;rintro _ rfl;exact tS (Or.inr ⟨rfl,rfl,h.less _ _ _ El List.filter_sublist,a,f⟩)
theorem Arx{C U}{o}{q}(h:LK C U o q)(a1 a2)(k:0<=a1/\a1<(U:Int))(h2:0<=a2/\a2<(C:Int)):DT (S1 ⟨o,q⟩ a1 a2) (λ r=>r.2≠0∨(r.2=0/\r.1.CQ=o/\LK C U o r.1.CR)):=by
 have n:=h.ol;have p:=h.ql;have u:=h.u8
 unfold S1;dsimp only;refine tB (Xh h a1 a2 AQ h2) ?_;rintro _ rfl;refine tD (λ _=>tB (LS h a1) ?_) (λ h=>AQ);rintro x hx;refine tD (λ m=>tS (Or.inl AS)) (λ Dv=>tI AQ λ y i s=>tD (λ e=>tS (Or.inl AS)) λ EH=>tB h.copy ?_);rintro _ rfl;rcases hx with ⟨_,hx⟩ | ⟨t,_⟩
 rotate_left
 . omega
 refine tI AS λ row El f=>tG (by have:=(h.row f).2;omega) λ _=>tS (Or.inr ⟨rfl,rfl,h.ol,by dsimp only;rw[List.length_set];exact h.ql,h.O4,h.u8,h.ow,ES h.qr (Es (h.qr row f) k),?_,?_⟩)
 . dsimp only;rw[(QA q _ row a1 El).nodup_iff];refine List.nodup_cons.2 ⟨?_,h.nd⟩;intro l;obtain ⟨r,a,b⟩:=List.mem_flatten.1 l;exact hx r a b
 . intro j z r g a;rw[BH] at a;split at a
   . rename_i e;subst e;split at a
     . cases a;intro b;rcases BD.1 b with b | b
       . exact h.no _ z row g El b
       . obtain rfl:=BG.1 b;rw[g] at i;exact EH (Bf i).symm
     . cases a
   . exact h.no j z r g a
theorem Ak9{C U}{o}{q}(h:LK C U o q)(a1)(hc:a1.length=C):DT (N4 ⟨o,q⟩ a1) (λ r=>r.2.2=0/\LK C U r.1.CQ r.1.CR/\(∀g∈r.2.1,0<=g.CZ/\g.CZ<(U:Int)/\0<=g.cell/\g.cell<(C:Int)/\o[g.cell.toNat]?=some (-1)/\r.1.CQ[g.cell.toNat]?=some g.CZ)/\(r.2.1.map (·.cell)).Pairwise (· < ·)/\r.2.1.length<=C/\∀(i:Nat) x,o[i]?=some x->x≠-1->r.1.CQ[i]?=some x):=by
 have V:=h.ol;have NN:=h.O4
 unfold N4;dsimp only;refine tB (Q9 h) ?_;rintro _ rfl;refine tC (λ _=>tD (λ _=>tB h.copy ?_) (λ h=>AQ)) (λ h=>by cases h);rintro _ rfl;refine tB (P:=λ e=>LK C U e.1 e.2.1/\(∀g∈e.2.2.1,0<=g.CZ/\g.CZ<(U:Int)/\0<=g.cell/\g.cell<(C:Int)/\o[g.cell.toNat]?=some (-1)/\e.1[g.cell.toNat]?=some g.CZ)/\(e.2.2.1.map (·.cell)).Pairwise (· < ·)/\e.2.2.1.length<=C/\∀(i:Nat) x,o[i]?=some x->x≠-1->e.1[i]?=some x)
   (tL (λ s=>∃i:Nat,i<=C/\s.2.2.2=(i:Int)/\LK C U s.1 s.2.1/\(∀g∈s.2.2.1,0<=g.CZ/\g.CZ<(U:Int)/\0<=g.cell/\g.cell<(C:Int)/\g.cell<(i:Int)/\o[g.cell.toNat]?=some (-1)/\s.1[g.cell.toNat]?=some g.CZ)/\(s.2.2.1.map (·.cell)).Pairwise (· < ·)/\s.2.2.1.length<=i/\(∀(j:Nat) x,o[j]?=some x->x≠-1->s.1[j]?=some x)/\∀j:Nat,i<=j->s.1[j]?=o[j]?) (λ s=>C - s.2.2.2.toNat) ⟨0,AQ,rfl,h,all_nil,List.Pairwise.nil,AT,λ j x f _=>f,λ j _=>rfl⟩ ?_) ?_
 rotate_left
 . rintro ⟨H,R,S,v4⟩ ⟨k,n,t,Q,u⟩;exact tS ⟨rfl,k,n,t,Q,u⟩
 rintro ⟨H,R,S,v4⟩ ⟨i,hi,rfl,k,n,t,Q,u,B⟩;dsimp only at*;have l1:=k.ol;have l2:=k.ql
 rw[S0.eq_1];have W:i64.wrap ((i:Int)+1)=(i:Int)+1:=C2 AQ AQ;rw[W];have stay:(i:Int)<(H.length:Int)->(λ y:(Aa×Ab×AA×Int)⊕(Aa×Ab×AA×Int)=>match y with | .inl l=>(∃i:Nat,i<=C/\l.2.2.2=(i:Int)/\LK C U l.1 l.2.1/\(∀g∈l.2.2.1,0<=g.CZ/\g.CZ<(U:Int)/\0<=g.cell/\g.cell<(C:Int)/\g.cell<(i:Int)/\o[g.cell.toNat]?=some (-1)/\l.1[g.cell.toNat]?=some g.CZ)/\(l.2.2.1.map (·.cell)).Pairwise (· < ·)/\l.2.2.1.length<=i/\(∀(j:Nat) x,o[j]?=some x->x≠-1->l.1[j]?=some x)/\∀j:Nat,i<=j->l.1[j]?=o[j]?)/\C - l.2.2.2.toNat<C - (i:Int).toNat | .inr e=>LK C U e.1 e.2.1/\(∀g∈e.2.2.1,0<=g.CZ/\g.CZ<(U:Int)/\0<=g.cell/\g.cell<(C:Int)/\o[g.cell.toNat]?=some (-1)/\e.1[g.cell.toNat]?=some g.CZ)/\(e.2.2.1.map (·.cell)).Pairwise (· < ·)/\e.2.2.1.length<=C/\∀(i:Nat) x,o[i]?=some x->x≠-1->e.1[i]?=some x) (.inl (H,R,S,(i:Int)+1)):=λ Dv=>
   ⟨⟨i+1,AQ,AT,k,λ g m=>by have:=n g m;refine ⟨this.1,this.2.1,this.2.2.1,this.2.2.2.1,AQ,this.2.2.2.2.2⟩,t,AS,u,λ j f=>B j AQ⟩,AS⟩
 refine tD (λ Dv=>tI AQ λ x hx Y=>?_) (λ _=>tS ⟨k,λ g m=>by have:=n g m;exact ⟨this.1,this.2.1,this.2.2.1,this.2.2.2.1,this.2.2.2.2.2⟩,t,AS,u⟩);refine tD (λ e=>tI AQ λ cl _ _=>tC (λ _=>tS (stay Dv)) λ _=>tI AQ λ row El p=>?_) (λ _=>tS (stay Dv));subst e;refine tD (λ HU=>?_) (λ _=>tS (stay Dv));cases row with
 | nil=>simp at HU
 | cons r row=>
   have K:=k.qr _ p r List.mem_cons_self;have v:=(k.row p);refine tI AQ λ y Z _=>tG AQ λ _=>tG AQ λ _=>tS ?_;have:r=y:=by simpa using Z
   subst this;have I:o[i]?=some (-1):=by rw[<-B i AQ];exact hx
   have Ave:(List.drop 1 (List.take (r::row).length (r::row)))=row:=AT;rw[Ave,Be];have w:r∉row:=(List.nodup_cons.1 v.1).1;have XN:=k.less i _ row El (List.sublist_cons_self r row);refine ⟨⟨i+1,AQ,AT,XN.ownRow _ AT (ES k.ow AQ) ?_,?_,?_,by dsimp only;rw[List.length_append];simp only[List.length_cons,List.length_nil];omega,?_,?_⟩,AS⟩
   . intro j z E f JH;rw[BH] at f;by_cases e:i=j
     . subst e;rw[if_pos rfl,if_pos AQ] at f;rw[BH,if_pos rfl,if_pos AQ] at JH;cases f;cases JH;exact w
     . rw[if_neg e] at f;exact XN.no j z E f JH
   . refine Es (λ g m=>?_) ⟨K.1,K.2,AS,AS,AS,by simpa using I,by dsimp only;rw[Be,List.getElem?_set,if_pos rfl,if_pos AQ]⟩;have:=n g m;refine ⟨this.1,this.2.1,this.2.2.1,this.2.2.2.1,AQ,this.2.2.2.2.2.1,?_⟩;rw[BH,if_neg AQ];exact this.2.2.2.2.2.2
   . dsimp only;rw[List.map_append,List.pairwise_append];refine ⟨t,AT,?_⟩;intro a T b hb;obtain ⟨g,m,rfl⟩:=BR.1 T;simp only[B0,List.map_nil,BG] at hb;subst hb;exact (n g m).2.2.2.2.1
   . intro j z f N;rw[BH];by_cases e:i=j
     . subst e;rw[I] at f;exact absurd (Bf f).symm N
     . rw[if_neg e];exact u j z f N
   . intro j f;rw[BH,if_neg AQ];exact B j AQ
theorem Xj{C U}{o}{q}(h:LK C U o q)(a1)(l:0<=a1/\a1<8):DT (LP ⟨o,q⟩ a1) (λ r=>r.1.length<=C/\r.1.Nodup/\∀c∈r.1,0<=c/\c<(C:Int)/\o[c.toNat]?=some a1):=by
 have n:=h.ol;have NN:=h.O4
 unfold LP;refine tB (Ac3 h a1 l) ?_;rintro _ rfl;refine tD (λ _=>?_) (λ h=>AQ);refine tB (P:=λ e=>e.1.length<=C/\e.1.Nodup/\∀c∈e.1,0<=c/\c<(C:Int)/\o[c.toNat]?=some a1) (tL (λ s=>∃i:Nat,i<=C/\s.2=(i:Int)/\s.1.length<=i/\s.1.Nodup/\∀c∈s.1,0<=c/\c<(i:Int)/\o[c.toNat]?=some a1) (λ s=>C - s.2.toNat) ⟨0,AQ,rfl,AT,List.nodup_nil,all_nil⟩ ?_) ?_
 . rintro ⟨v,_⟩ ⟨i,u,rfl,t,g,j⟩;dsimp only at t;rw[SY.eq_1];dsimp only;have p:i64.wrap ((i:Int)+1)=(i:Int)+1:=C2 AQ AQ;rw[p];have k:∀c∈v,0<=c/\c<((i+1:Nat):Int)/\o[c.toNat]?=some a1:=λ c f=>by have:=j c f;exact ⟨this.1,AQ,this.2.2⟩
   refine tD (λ Dv=>tI AQ λ x hx _=>tD (λ e=>tG AQ λ _=>tS ⟨⟨i+1,AQ,AT,AW,?_,?_⟩,AS⟩) (λ _=>tS ⟨⟨i+1,AQ,AT,AS,g,k⟩,AS⟩)) (λ _=>tS ⟨AS,g,λ c f=>by have:=j c f;exact ⟨this.1,AQ,this.2.2⟩⟩)
   . dsimp only;rw[List.nodup_append];refine ⟨g,AT,?_⟩;rintro a m b hb rfl;obtain rfl:=BG.1 hb;have:=j _ m;omega
   . exact Es k ⟨AQ,AQ,by rw[hx,e]⟩
 . rintro ⟨v,i⟩ h;exact tS h
structure NW(C B S:Nat)(n:Nt):Prop where
 nb:n.blocks.length=B
 b1:1<=B
 g:GW B n.next
 ns:n.CV.length=S
 s6:S<=6
 sp:∀s∈n.CV,0<=s.PK/\s.PK<(B:Int)/\0<=s.out/\s.out<(B:Int)/\1<=s.Ei/\s.Ei<=4/\(B:Int)<=s.base/\s.base+s.Ei<=(C:Int)
 cov:∀x:Int,(B:Int)<=x->x<(C:Int)->∃s∈n.CV,s.base<=x/\x<s.base+s.Ei
 O4:C<=48
 bc:B<=C
 vd:u_r03_Valid_v n=some true
 cs:Fp n=some (C:Int)
 rl:n.C8.length<=8
 rr:∀x∈n.C8,(B:Int)<=x/\x<(C:Int)
 rn:n.C8.Nodup
theorem ZQ(a0)(a1):DT (NL a0 a1) (λ _=>True):=by
 unfold NL
 repeat' (first | (with_reducible refine tI (by (first | omega | (simp only[Bv,Bw,Br,Bz,B1,BJ,Cs] at*;omega))) (λ _ _ _=>?_)) | (with_reducible refine tG (by (first | omega | (simp only[Bv,Bw,Br,Bz,B1,BJ,Cs] at*;omega))) (λ _=>?_)) | (with_reducible refine tD (λ _=>?_) (λ _=>?_)) | (with_reducible refine tC (λ _=>?_) (λ _=>?_)) | (with_reducible refine tS ?_))
 all_goals trivial
theorem Mf{C B S}{n}(h:NW C B S n)(a1)(m:a1<1000000):DT (Fo n a1) (λ r=>(r.1=-1/\∀s∈n.CV,¬(s.base<=a1/\a1<s.base+s.Ei))∨(0<=r.1/\r.1<(S:Int)/\1<=r.2/\r.2<=4/\(B:Int)<=a1/\a1<(C:Int)/\∃s,n.CV[r.1.toNat]?=some s/\s.base<=a1/\a1<s.base+s.Ei/\r.2=a1 - s.base+1)):=by
 have l:=h.s6;have Ut:=h.ns;have NN:=h.O4
 unfold Fo;refine tB (MF (Q:=λ e=>match e with | .inl _=>∀s∈n.CV,¬(s.base<=a1/\a1<s.base+s.Ei) | .inr r=>(0<=r.1/\r.1<(S:Int)/\1<=r.2/\r.2<=4/\(B:Int)<=a1/\a1<(C:Int)/\∃s,n.CV[r.1.toNat]?=some s/\s.base<=a1/\a1<s.base+s.Ei/\r.2=a1 - s.base+1)) n.CV (λ i=>∀s∈n.CV.take i,¬(s.base<=a1/\a1<s.base+s.Ei)) AT ?_ ?_) ?_
 . intro i s b j a o;have:=h.sp s j;refine tD (λ _=>?_) (λ h=>AQ);rw[EO b,Bd];have k:i64.wrap ((i:Int)+1)=(i:Int)+1:=C2 AQ AQ;rw[C2 (n:=s.base+s.Ei) AQ AQ,k];refine tD (λ f=>tD (λ g=>tS ?_) (λ e=>tS ⟨rfl,?_⟩)) (λ e=>tS ⟨rfl,?_⟩)
   . dsimp only;rw[C2 (n:=a1 - s.base) AQ AQ,C2 AQ AQ];exact ⟨AQ,AQ,AQ,AQ,AQ,AQ,s,by simpa using b,f,g,rfl⟩
   . rw[Fv b];exact Es a AQ
   . rw[Fv b];exact Es a AQ
 . intro a;refine tD (λ h=>AQ) (λ _=>tS ?_);rwa[BE] at a
 . rintro (v | r) h
   . exact tS (Or.inl ⟨rfl,h⟩)
   . exact tS (Or.inr h)
theorem WK{C B S}{n}(h:NW C B S n){a}(b:∀s∈n.CV,¬(s.base<=a/\a<s.base+s.Ei))(h2:a<(C:Int)):a<(B:Int):=by
 by_cases e:a<(B:Int)
 . exact e
 . obtain ⟨s,g,f⟩:=h.cov a AQ h2;exact absurd f (b s g)
structure VM(C S T:Nat)(u:KP):Prop where
 hm:-2<=u.Ev/\u.Ev<(S:Int)
 ce:-1<=u.cell/\u.cell<(C:Int)
 tt:-1<=u.Ff/\u.Ff<(C:Int)
 tk:-1<=u.DY/\u.DY<(T:Int)
 rt:∀c∈u.De,0<=c/\c<(C:Int)
 rl:u.De.length<=1000
 ac:u.state=1->0<=u.cell
structure TOK(S U:Nat)(t:Tsk):Prop where
 pk:0<=t.pick/\t.pick<(S:Int)
 dr:0<=t.drop/\t.drop<(S:Int)
 rb:t.state=1∨t.state=2->0<=t.CZ/\t.CZ<(U:Int)
theorem EN{i}{n:Nat}(h0:0<=i)(h:i<(n:Int))(a:n<=100000000):i64.wrap (i+1)=i+1:=C2 AQ AQ
theorem Ahf{C B S}{n}(h:NW C B S n)(a1 a2)(e:a1<1000000):DT (LH n a1 a2) (λ _=>True):=by
 unfold LH;refine tD (λ _=>tS trivial) (λ _=>tB (Mf h a1 e) ?_);rintro ⟨a,b⟩ _;exact tS trivial
theorem Bbs{C B S T}{n}(h:NW C B S n)(u)(l)(a3)(a:VM C S T u)(b:l.length=T):DT (JV n u l a3) (λ _=>True):=by
 have:=a.ce;have:=a.tt;have:=a.tk;have:=h.O4
 unfold JV;refine tD (λ _=>tB (Ahf h _ _ AQ) λ _ _=>tC (λ _=>tS trivial) λ _=>tB (Ahf h _ _ AQ) λ _ _=>?_) (λ _=>tS trivial)
 repeat' (first | (with_reducible refine tI (by (first | omega | (simp only[Bv,Bw,Br,Bz,B1,BJ,Cs] at*;omega))) (λ _ _ _=>?_)) | (with_reducible refine tG (by (first | omega | (simp only[Bv,Bw,Br,Bz,B1,BJ,Cs] at*;omega))) (λ _=>?_)) | (with_reducible refine tD (λ _=>?_) (λ _=>?_)) | (with_reducible refine tC (λ _=>?_) (λ _=>?_)) | (with_reducible refine tS ?_))
 all_goals trivial
theorem Bc4{C B S T}{n}(h:NW C B S n)(us)(l)(g:∀u∈us,VM C S T u)(f:l.length=T)(OY:us.length<=8):DT (JW n us l) (λ r=>r.length=S):=by
 have o:=h.s6;have Ut:=h.ns
 unfold JW;refine tG AQ λ _=>tB (P:=λ e=>e.1.length=S) (tL (λ s=>s.1.length=S/\0<=s.2/\s.2<=(S:Int)) (λ s=>((S:Int) - s.2).toNat) ⟨by simp[Ut],AR,AR⟩ ?_) ?_
 . rintro ⟨v,i⟩ ⟨a,h2,m⟩;refine tD (λ Dv=>tB (P:=λ e=>e.1.length=S) (tL (λ s=>s.1.length=S/\0<=s.2/\s.2<=(us.length:Int)) (λ s=>((us.length:Int) - s.2).toNat) ⟨a,AR,AR⟩ ?_) ?_) (λ _=>tS a)
   . rintro ⟨w,j⟩ ⟨b,k,p⟩;dsimp only at b;refine tD (λ So=>tI AQ λ s _ _=>tC (λ _=>tS b) λ _=>tI AQ λ u _ UY=>tB (Bbs h u l i (g u UY) f) λ t _=>?_) (λ _=>tS b);rw[EN k So AQ];refine tC (λ _=>tI AQ λ _ _ _=>tS AU) (λ _=>tS AU)
   . rintro ⟨w,j⟩ b;rw[C2 AQ AQ];exact tS AR
 . rintro ⟨v,i⟩ a;exact tS a
theorem Blm{C B S U T}{n}(h:NW C B S n)(us)(l)(a3)(j:∀u∈us,VM C S T u)(g:∀t∈l,TOK S U t)(i:l.length=T)(OY:us.length<=8)(k:0<=a3/\a3<(T:Int)):DT (SV n us l a3) (λ r=>r=true->∃t,l[a3.toNat]?=some t/\t.state=0):=by
 have Ut:=h.ns;unfold SV;refine tI AQ λ t f a=>tB (Bc4 h us l j i OY) λ c m=>?_;have:=(g t a).pk;have:=(g t a).dr
 refine tD (λ e=>tI AQ λ _ _ _=>tI AQ λ _ _ _=>tD (λ _=>tI AQ λ _ _ _=>tI AQ λ _ _ _=>tS (λ _=>⟨t,f,e⟩)) (λ _=>tS (λ b=>by cases b))) (λ _=>tS (λ b=>by cases b))
theorem Uc{C B S}{n}(h:NW C B S n)(a1)(a2)(b:a1.length=C)(h2:0<=a2/\a2<(S:Int)):DT (FP n a1 a2) (λ _=>True):=by
 have Ut:=h.ns;have NN:=h.O4;have:=h.bc
 unfold FP;refine tI AQ λ s _ a=>?_;have:=h.sp s a;refine tI AQ λ _ _ _=>tC (λ _=>tS trivial) λ _=>tI AQ λ _ _ _=>tC (λ _=>tS trivial) λ _=>tB (P:=λ _=>True) (tL (λ i=>s.base<=i/\i<=s.base+s.Ei) (λ i=>(s.base+s.Ei - i).toNat) AQ ?_) ?_
 . rintro i ⟨e,f⟩;rw[PA.eq_1,C2 (n:=s.base+s.Ei) AQ AQ,C2 (n:=i+1) AQ AQ];refine tD (λ _=>tI AQ λ _ _ _=>tC (λ _=>tS trivial) λ _=>tS AR) (λ _=>tS trivial)
 . rintro (_ | r) _
   . exact tS trivial
   . exact tS trivial
theorem WJ{C B S}{n}(h:NW C B S n)(a1)(a2)(a3)(e:a1.length=C)(f:a2.length<=1000)(h2:0<=a3/\a3<(S:Int)):DT (Io n a1 a2 a3) (λ _=>True):=by
 have Ut:=h.ns;have:=h.bc
 unfold Io;refine tI AQ λ s _ j=>tC (λ _=>tB (Uc h a1 a3 e h2) λ _ _=>tC (λ _=>tB (P:=λ _=>True) (tL (λ s=>0<=s.1/\s.1<=(a2.length:Int)) (λ s=>((a2.length:Int) - s.1).toNat) AR ?_) ?_) (λ _=>tS trivial)) (λ _=>tS trivial)
 . rintro ⟨i,w⟩ ⟨g,k⟩;refine tD (λ Dv=>tI AQ λ _ _ _=>?_) (λ _=>tS trivial);rw[EN g Dv AQ];refine tD (λ _=>tS AR) (λ _=>tS AR)
 . rintro ⟨a,b⟩ _;exact tS trivial
theorem gs{α:Type}{l:List α}{i}{v}(h:i<l.length):(l.set i v)[i]?=some v:=by rw[BH,if_pos rfl,if_pos h]
theorem Ba{p:Prop}(h:p:=by simp only[Bv];omega):p:=h
theorem Ar8{C B S}{n}(h:NW C B S n)(a1)(a2 a3)(o:a1.length=C)(I:a2.length<=8)(K:a3.length=a2.length)(u:∀x∈a3,-1<=x/\x<(S:Int))(h2:∀x∈a2,-2<=x/\x<(S:Int)):DT (K6 n a1 a2 a3) (λ r=>r.length=a2.length/\∀x∈r,-2<=x/\x<(S:Int)):=by
 have Ut:=h.ns;have T:=h.s6
 unfold K6;refine tG AQ λ _=>tB (P:=λ e=>e.1.length=a2.length/\∀x∈e.1,-2<=x/\x<(S:Int)) (tL (λ s=>s.1.length=a2.length/\(∀x∈s.1.take s.2.toNat,-2<=x/\x<(S:Int))/\0<=s.2/\s.2<=(a2.length:Int)) (λ s=>((a2.length:Int) - s.2).toNat) ⟨AT,AT,AR,AR⟩ ?_) ?_
 . rintro ⟨v,i⟩ ⟨a,b,g,E⟩;dsimp only at*;obtain ⟨i,rfl⟩:=Akv g;refine tD (λ Dv=>tI AQ λ x _ _=>tI AQ λ y _ _=>?_) (λ _=>tS ⟨a,?_⟩)
   . rw[EN g Dv AQ,Be];have m:∀z:Int,-2<=z/\z<(S:Int)->∀w:Aa,w.length=a2.length->w.take i=v.take i->w[i]?=some z->(w.length=a2.length/\(∀x∈w.take ((i:Int)+1).toNat,-2<=x/\x<(S:Int))/\0<=(i:Int)+1/\(i:Int)+1<=(a2.length:Int))/\((a2.length:Int) - ((i:Int)+1)).toNat<((a2.length:Int) - (i:Int)).toNat:=by
       intro z l w p q t;refine ⟨⟨p,?_,AQ,AQ⟩,AQ⟩;rw[show ((i:Int)+1).toNat=i+1 by omega,Fv t,q];exact Es b l
     refine tD (λ _=>tI Ba λ _ _ _=>tS (m (-2) AQ _ (by simp[a]) (by simp[List.take_set_of_le]) (gs Ba))) (λ _=>tI AQ λ z _ l=>tD (λ Q=>tB (Uc h a1 z o (by have:=u z l;omega)) λ _ _=>tC (λ _=>tI Ba λ _ _ _=>tS (m z (by have:=u z l;omega) _ (by simp[a]) (by simp[List.take_set_of_le]) (gs Ba))) (λ _=>tS (m (-1) AQ _ (by simp[a]) (by simp[List.take_set_of_le]) (gs AQ)))) (λ _=>tS (m (-1) AQ _ (by simp[a]) (by simp[List.take_set_of_le]) (gs AQ))))
   . dsimp only;rwa[Bx AQ] at b
 . rintro ⟨v,i⟩ ⟨a,b⟩;refine tB (P:=λ e=>e.1.length=a2.length/\∀x∈e.1,-2<=x/\x<(S:Int)) (tL (λ s=>s.1.length=a2.length/\(∀x∈s.1,-2<=x/\x<(S:Int))/\0<=s.2/\s.2<=(a2.length:Int)) (λ s=>((a2.length:Int) - s.2).toNat) ⟨a,b,AR,AR⟩ ?_) ?_
   . rintro ⟨v,i⟩ ⟨a,b,g,E⟩;dsimp only at a;refine tD (λ Dv=>tI AQ λ x _ _=>?_) (λ _=>tS ⟨a,b⟩);rw[EN g Dv AQ];refine tD (λ _=>tI AQ λ y _ N=>tD (λ _=>?_) (λ _=>tS ⟨⟨a,b,AR,AR⟩,AR⟩)) (λ _=>tS ⟨⟨a,b,AR,AR⟩,AR⟩);have:=h2 y N;refine tB (WJ h a1 v y o AQ AQ) λ _ _=>tD (λ _=>tS ⟨⟨by dsimp only;rw[List.length_set];exact a,ES b AQ,AR,AR⟩,AR⟩) (λ _=>tS ⟨⟨a,b,AR,AR⟩,AR⟩)
   . rintro ⟨v,i⟩ ⟨a,b⟩;refine tB (P:=λ e=>e.1.length=a2.length/\∀x∈e.1,-2<=x/\x<(S:Int)) (tL (λ s=>s.1.length=a2.length/\(∀x∈s.1,-2<=x/\x<(S:Int))/\0<=s.2/\s.2<=(a2.length:Int)) (λ s=>((a2.length:Int) - s.2).toNat) ⟨a,b,AR,AR⟩ ?_) (λ ⟨v,i⟩ H=>tS H);rintro ⟨v,i⟩ ⟨a,b,g,E⟩;dsimp only at a;refine tD (λ Dv=>tB (P:=λ e=>e.1.length=a2.length/\∀x∈e.1,-2<=x/\x<(S:Int)) (tL (λ s=>s.1.length=a2.length/\(∀x∈s.1,-2<=x/\x<(S:Int))/\0<=s.2/\s.2<=(S:Int)) (λ s=>((S:Int) - s.2).toNat) ⟨a,b,AR,AR⟩ ?_) ?_) (λ _=>tS ⟨a,b⟩)
     . rintro ⟨w,j⟩ ⟨f,k,R,U⟩;dsimp only at f;refine tD (λ So=>tI AQ λ x _ _=>tD (λ _=>tB (WJ h a1 w j o AQ AQ) λ _ _=>?_) (λ _=>tS ⟨f,k⟩)) (λ _=>tS ⟨f,k⟩);rw[EN R So AQ];refine tD (λ _=>tS ⟨⟨by dsimp only;rw[List.length_set];exact f,ES k AQ,AR,AR⟩,AR⟩) (λ _=>tS ⟨⟨f,k,AR,AR⟩,AR⟩)
     . rintro ⟨w,j⟩ ⟨f,k⟩;rw[EN g Dv AQ];exact tS ⟨⟨f,k,AR,AR⟩,AR⟩
theorem Bim(l)(a1)(a2)(a:a1.length=l.length)(f:l.length<=1000):DT (P9 l a1 a2) (λ r=>r<0∨(0<=r/\r<(l.length:Int)/\∃t,l[r.toNat]?=some t/\t.state=0)):=by
 unfold P9;refine tB (MF (Q:=λ e=>match e with | .inl _=>True | .inr r=>r<0∨(0<=r/\r<(l.length:Int)/\∃t,l[r.toNat]?=some t/\t.state=0)) l (λ _=>True) trivial ?_ ?_) ?_
 . intro i x hx g _ b;refine tD (λ _=>?_) (λ h=>AQ);rw[EO hx,Bd,EN AQ AQ (by omega:l.length<=100000000)];refine tD (λ e=>tI AQ λ _ _ _=>tC (λ _=>tS (Or.inr ⟨AQ,AQ,x,by simpa using hx,e⟩)) λ _=>tD (λ _=>tS (Or.inl AQ)) λ _=>tS ⟨rfl,trivial⟩) (λ _=>tS ⟨rfl,trivial⟩)
 . intro _;exact tD (λ h=>AQ) (λ _=>tS trivial)
 . rintro (v | r) h
   . exact tS (Or.inl AQ)
   . exact tS h
theorem Bc7(l)(a1 a2)(g:0<=a1/\a1<(l.length:Int))(o:l.length<=1000)(x)(hx:l[a1.toNat]?=some x):DT (NZ l a1 a2) (λ r=>r.map (λ t=>(t.pick,t.drop,t.state,t.CZ))=(l.set a1.toNat {x with state:=1,CZ:=a2}).map (λ t=>(t.pick,t.drop,t.state,t.CZ))):=by
 unfold NZ;refine tG AQ λ _=>tI g λ y a _=>tI Ba λ z f _=>?_;obtain rfl:x=y:=by rw[hx] at a;exact Bf a
 obtain rfl:{x with state:=1}=z:=by rw[BH,if_pos rfl,if_pos AQ] at f;exact Bf f
 rw[Cr];refine tB (P:=λ e=>e.1.map (λ t:Tsk=>(t.pick,t.drop,t.state,t.CZ))=(l.set a1.toNat {x with state:=1,CZ:=a2}).map (λ t=>(t.pick,t.drop,t.state,t.CZ))) (tL (λ s=>s.1.map (λ t:Tsk=>(t.pick,t.drop,t.state,t.CZ))=(l.set a1.toNat {x with state:=1,CZ:=a2}).map (λ t=>(t.pick,t.drop,t.state,t.CZ))/\0<=s.2/\s.2<=a1) (λ s=>(a1 - s.2).toNat) ⟨rfl,AR,AR⟩ ?_) (λ ⟨v,i⟩ k=>tS k);rintro ⟨v,i⟩ ⟨b,n,p⟩;have m:v.length=l.length:=by have:=congrArg List.length b;simpa using this
 refine tD (λ Dv=>tI AQ λ y a _=>?_) (λ _=>tS b);rw[EN n (by omega:i<(l.length:Int)) AQ];refine tD (λ _=>tS ⟨⟨?_,AR,AR⟩,AR⟩) (λ _=>tS ⟨⟨b,AR,AR⟩,AR⟩);rw[<-b,BI];apply List.ext_getElem?;intro j;rw[BH];split
 . rename_i e;subst e;rw[Cs,if_pos AQ,BC,a];rfl
 . rfl
def DI(g:Ab)(ET:Int)(d:Aa):Prop:=∀(v:Nat) x,d[v]?=some x->x=-1∨(x=0/\(v:Int)=ET)∨(0<x/\x<=24/\∃row w,g[v]?=some row/\w∈row/\d[w.toNat]?=some (x - 1))
theorem DI.put{n}{g}{ET}{d}(H:GW n g)(h:DI g ET d){v}{k w}{row}(E:d.length=n)(a:d[v]?=some (-1)∨d[v]?=some k)(m:0<k/\k<=24)(El:g[v]?=some row)(t:w∈row)(i:d[w.toNat]?=some (k - 1)):DI g ET (d.set v k):=by
 rcases a with a | a
 . intro u x f;have s:=Fq a;have keep:∀(z:Nat) (y:Int),d[z]?=some y->0<=y->(d.set v k)[z]?=some y:=by
     intro z y l I;rw[BH];split
     . rename_i e;subst e;rw[a] at l;have:=Bf l;omega
     . exact l
   rw[BH] at f;split at f
   . rename_i e;subst e;cases f;exact Or.inr (Or.inr ⟨m.1,m.2,row,w,El,t,keep _ _ i AQ⟩)
   . rcases h u x f with b | b | ⟨b,h2,r,B,o,p,q⟩
     . exact Or.inl b
     . exact Or.inr (Or.inl b)
     . exact Or.inr (Or.inr ⟨b,h2,r,B,o,p,keep _ _ q AQ⟩)
 . have:d.set v k=d:=by
     apply List.ext_getElem?;intro j;rw[BH];split
     . rename_i e;subst e;rw[if_pos (Fq a),a]
     . rfl
   rw[this];exact h
theorem Yy{n}{g}(p:GW n g)(a1)(a2)(T:a1.length=n)(h2:0<=a2/\a2<(n:Int)):DT (Gx g a1 a2) (λ r=>r.length=n/\DI g a2 r):=by
 have q:=p.gl;have H:=p.g24
 unfold Gx;refine tG AQ λ _=>tB (P:=λ e=>e.1=List.replicate n (-1)) (tL (λ s=>∃i:Nat,i<=n/\s=(List.replicate i (-1)++List.replicate (n - i) 0,(i:Int))) (λ s=>n - s.2.toNat) ⟨0,AQ,by simp[q]⟩ ?_) ?_
 . rintro s ⟨i,R,l⟩;rw[l,PC.eq_1];refine tD (λ Dv=>tI AW λ _ _ _=>tS ?_) (λ _=>tS ?_)
   . refine ⟨⟨i+1,AQ,?_⟩,by dsimp only;rw[C2 AQ AQ];omega⟩;rw[C2 AQ AQ,Be,show n - i=(n - (i+1))+1 by omega,List.replicate_succ,List.set_append_right _ _ AT];simp[List.replicate_succ']
   . obtain rfl:i=n:=AQ;simp
 rintro ⟨_,_⟩ rfl;refine tI AQ λ c _ _=>tC (λ _=>tS ⟨AT,?_⟩) (λ _=>tI AW λ _ _ _=>?_)
 . intro v x hx;rw[CC] at hx;split at hx
   . exact Or.inl (Bf hx).symm
   . cases hx
 obtain ⟨a,rfl⟩:=Akv h2.1;have E:DI g a ((List.replicate n (-1)).set a 0):=by
   intro v x hx;rw[BH] at hx;split at hx
   . rename_i e;subst e;split at hx
     . exact Or.inr (Or.inl ⟨(Bf hx).symm,rfl⟩)
     . cases hx
   . rw[CC] at hx;split at hx
     . exact Or.inl (Bf hx).symm
     . cases hx
 refine tB (P:=λ e=>e.1.length=n/\DI g a e.1) (tL (λ s=>(s.1.length=n/\DI g a s.1)/\1<=s.2/\s.2<=24) (λ s=>(24 - s.2).toNat) ⟨⟨AT,E⟩,AR,AR⟩ ?_) (λ ⟨v,i⟩ l=>tS l);rintro ⟨d,k⟩ ⟨⟨u,z⟩,V,W⟩;refine tD (λ S=>tB (P:=λ e=>e.1.length=n/\DI g a e.1) (tL (λ s=>(s.1.length=n/\DI g a s.1)/\0<=s.2/\s.2<=(n:Int)) (λ s=>((n:Int) - s.2).toNat) ⟨⟨u,z⟩,AR,AR⟩ ?_) ?_) (λ _=>tS ⟨u,z⟩);rotate_left
 . rintro ⟨d,i⟩ ⟨b,f⟩;rw[C2 AQ AQ];exact tS ⟨⟨⟨b,f⟩,AR,AR⟩,AR⟩
 rintro ⟨d,v⟩ ⟨⟨b,f⟩,Q,Y⟩;dsimp only at b;obtain ⟨v,rfl⟩:=Akv Q;refine tD (λ Dv=>?_) (λ _=>tS ⟨b,f⟩);rw[C2 (n:=(v:Int)+1) AQ AQ];refine tI AQ λ c _ _=>tC (λ _=>tS ⟨⟨⟨b,f⟩,AR,AR⟩,AR⟩) λ _=>tI AQ λ x hx _=>tD (λ _=>tS ⟨⟨⟨b,f⟩,AR,AR⟩,AR⟩) λ Aoj=>?_;have MR:x=-1:=by rcases f v x hx with h | h | h<;>omega
 subst MR;obtain ⟨row,El⟩:∃row,g[v]?=some row:=⟨_,Bp AQ⟩;have I:=p.gr row (Bt El);refine tB (P:=λ e=>e.1.length=n/\DI g a e.1) (tL (λ s=>(s.1.length=n/\DI g a s.1/\(s.1[v]?=some (-1)∨s.1[v]?=some k))/\0<=s.2/\s.2<=(row.length:Int)) (λ s=>((row.length:Int) - s.2).toNat) ⟨⟨b,f,Or.inl hx⟩,AR,AR⟩ ?_) (λ ⟨d,i⟩ l=>tS ⟨⟨l,AR,AR⟩,AR⟩);rintro ⟨d,j⟩ ⟨⟨o,t,B⟩,Z,p5⟩;dsimp only at o;rw[PD.eq_1];rw[EO El,Bd];refine tD (λ Dv=>tI AQ λ w U m=>?_) (λ _=>tS ⟨o,t⟩);have K:=I.2 w m;rw[C2 (n:=j+1) AQ AQ,C2 (n:=k - 1) AQ AQ];refine tI AQ λ y N _=>tD (λ e=>tI AQ λ _ _ _=>tS ⟨⟨⟨by simpa using o,?_,Or.inr (by dsimp only;rw[Be];exact gs (AQ))⟩,AR,AR⟩,AR⟩) (λ _=>tS ⟨⟨⟨o,t,B⟩,AR,AR⟩,AR⟩);exact t.put p o B AQ El m (by rw[N,e])
def HI(g:Ab)(d h:Aa):Prop:=∀(v:Nat) x,d[v]?=some x->0<x->∃w row,h[v]?=some w/\g[v]?=some row/\w∈row/\d[w.toNat]?=some (x - 1)
theorem Bea{n}{g}(z:GW n g)(t)(m)(hl:t.length=n)(h2:0<=m/\m<(n:Int)):DT (K0 g t m) (λ r=>∃d,Gx g t m=some d/\r.length=n/\HI g d r):=by
 have I:=z.gl;have a0:=z.g24
 unfold K0;obtain ⟨d,hd,a3,o⟩:=Yy z t m hl h2;rw[hd,Bd];refine tG AQ λ _=>tB (P:=λ e=>e.1.length=n/\HI g d e.1) (tL (λ s=>∃i:Nat,s.2=(i:Int)/\i<=n/\s.1.length=n/\∀(v:Nat) x,v<i->d[v]?=some x->0<x->∃w row,s.1[v]?=some w/\g[v]?=some row/\w∈row/\d[w.toNat]?=some (x - 1)) (λ s=>n - s.2.toNat) ⟨0,rfl,AQ,by simp[I],λ v x hv=>AQ⟩ ?_) (λ ⟨v,i⟩ K=>tS ⟨d,rfl,K⟩);rintro ⟨h,_⟩ ⟨v,rfl,hv,Q,U⟩;dsimp only at Q;refine tD (λ Dv=>tI AQ λ _ _ _=>tI AQ λ row El N=>?_) (λ _=>tS ⟨Q,λ u x b=>U u x (by have:=Fq b;omega) b⟩);rw[Be] at El;have hr:=z.gr row N;rw[C2 (n:=(row.length:Int) - 1) AQ AQ,Be,C2 (n:=(v:Int)+1) AQ AQ];have Z:∀(f:Aa),f.length=n->(∀u:Nat,u≠v->f[u]?=h[u]?)->∀(u:Nat) x,u<v->d[u]?=some x->0<x->∃w row,f[u]?=some w/\g[u]?=some row/\w∈row/\d[w.toNat]?=some (x - 1):=by
   intro f _ K u x b a hx;rw[K u AQ];exact U u x b a hx
 obtain ⟨x,hx⟩:∃x,d[v]?=some x:=⟨_,Bp AQ⟩;refine tB (P:=λ e=>e.1.length=n/\(∀u:Nat,u≠v->e.1[u]?=h[u]?)/\(0<x->∃w row,e.1[v]?=some w/\g[v]?=some row/\w∈row/\d[w.toNat]?=some (x - 1))) (tL (λ s=>s.1.length=n/\(∀u:Nat,u≠v->s.1[u]?=h[u]?)/\(0<x->(∃(j:Nat) (w:Int),s.2<(j:Int)/\row[j]?=some w/\d[w.toNat]?=some (x - 1))->∃w row,s.1[v]?=some w/\g[v]?=some row/\w∈row/\d[w.toNat]?=some (x - 1))/\-1<=s.2/\s.2<(row.length:Int)) (λ s=>(s.2+1).toNat) ⟨by simpa using Q,λ u b=>by dsimp only;rw[List.getElem?_set,if_neg (λ e=>b e.symm)],λ HU=>?_,AR,AR⟩ ?_) ?_
 . rintro ⟨j,w,hj,B,_⟩;have:=Fq B;omega
 . rintro ⟨f,j⟩ ⟨k,l,H,p4,p5⟩;dsimp only at k;rw[PB.eq_1,EO hx];have fin:(x<=0∨j=-1)->(0<x->∃w row,f[v]?=some w/\g[v]?=some row/\w∈row/\d[w.toNat]?=some (x - 1)):=by
     rintro hc HU;refine H HU ?_;rcases o v x hx with h | h | ⟨_,_,Bo5,w,T,V,W⟩
     . omega
     . omega
     . rw[El] at T;cases T;obtain ⟨E,I7,Y⟩:=List.getElem_of_mem V;exact ⟨E,w,AQ,by rw[Bp I7,Y],W⟩
   refine tD (λ h0=>?_) (λ h0=>tS ⟨k,l,fin AQ⟩);refine tD (λ HU=>tI AQ λ w B p=>?_) (λ hn=>tS ⟨k,l,fin AQ⟩);have a4:=hr.2 w p;have Bz6:x<=24:=by rcases o v x hx with h | h | h<;>omega
   rw[C2 (n:=j - 1) AQ AQ,C2 (n:=x - 1) AQ AQ];refine tI AQ λ y q _=>tD (λ e=>tI AQ λ _ _ _=>tS ⟨⟨by simpa using k,?_,?_,AR,AR⟩,AR⟩) (λ EH=>tS ⟨⟨k,l,?_,AR,AR⟩,AR⟩)
   . intro u b;rw[Be,BH,if_neg (λ e=>b e.symm)];exact l u b
   . intro _ _;refine ⟨w,row,?_,El,p,by rw[q,e]⟩;exact gs AQ
   . rintro hp ⟨E,w',q1,R,S⟩;refine H hp ⟨E,w',?_,R,S⟩;rcases Int.lt_or_eq_of_le (show j<=(E:Int) by omega) with Bzr | e
     . exact Bzr
     . subst e;rw[Be] at B;rw[B] at R;cases R;rw[q] at S;exact absurd (Bf S) EH
 . rintro ⟨f,j⟩ ⟨k,l,H⟩;refine tS ⟨⟨v+1,AT,AQ,k,?_⟩,AR⟩;intro u y b a q;by_cases e:u=v
   . subst e;rw[hx] at a;cases a;exact H q
   . exact Z f k l u y AQ a q
theorem ZD{n}{g}(m:GW n g)(b)(a2 a)(H:b.length=n)(h2:0<=a2/\a2<(n:Int))(B:0<=a/\a<(n:Int)):DT (Gt g b a2 a) (λ r=>r.length<=100/\(∀x∈r,0<=x/\x<(n:Int))/\∀d x,Gx g b a=some d->d[a2.toNat]?=some x->0<=x->r≠[]):=by
 unfold Gt;obtain ⟨d,E,K,j⟩:=Yy m b a H B;rw[E,Bd];refine tI AQ λ x hx _=>tD (λ Aoj=>tS ⟨AT,all_nil,?_⟩) λ HU=>?_
 . intro T Z l f u;cases l;rw[hx] at f;have:=Bf f;omega
 refine tB (Bea m b a H B) ?_;rintro h ⟨U,JT,N,q⟩;rw[E] at JT;cases JT;have Bz6:x<=24:=by rcases j a2.toNat x hx with h | h | h<;>omega
 refine tB (P:=λ e=>e.1.length<=100/\(∀x∈e.1,0<=x/\x<(n:Int))/\e.1≠[]) (tL (λ s=>s.1≠[]/\(∀x∈s.1,0<=x/\x<(n:Int))/\(0<=s.2/\s.2<(n:Int))/\∃y,d[s.2.toNat]?=some y/\0<=y/\(s.1.length:Int)+y<=25) (λ s=>(d.getD s.2.toNat 0).toNat) ⟨AT,ND h2,h2,x,hx,AQ,AW⟩ ?_) (λ ⟨v,i⟩ o=>tS ⟨o.1,o.2.1,λ _ _ _ _ _=>o.2.2⟩);rintro ⟨p,v⟩ ⟨R,I,V,y,t,W,S⟩;dsimp only at S;refine tD (λ _=>tS ⟨AS,I,R⟩) λ EH=>tI AQ λ w Q _=>tG AQ λ _=>?_;rcases j v.toNat y t with e | ⟨e,f⟩ | ⟨e,_⟩
 . omega
 . omega
 . obtain ⟨Y,row,l,f,u,z⟩:=q v.toNat y t e;rw[Q] at l;cases l;have k:=(m.gr row (Bt f)).2 w u;refine tS ⟨⟨AT,Es I k,k,y - 1,z,AQ,AW⟩,?_⟩;simp only[Bu,t,z,BP];omega
theorem Qc{C B S}{n}(h:NW C B S n)(a1 a2)(j:0<=a1/\a1<(S:Int))(h2:1<=a2/\a2<=5):DT (Iu n a1 a2) (λ r=>r.length<=10/\∀x∈r,0<=x/\x<(C:Int)):=by
 have Ut:=h.ns;have NN:=h.O4;have:=h.bc
 unfold Iu;refine tB (P:=λ e=>e.1.length<=10/\∀x∈e.1,0<=x/\x<(C:Int)) (tL (λ s=>(s.1.length:Int)<=s.2/\(∀x∈s.1,0<=x/\x<(C:Int))/\1<=s.2/\s.2<=5) (λ s=>(6 - s.2).toNat) ⟨by dsimp only;simp only[List.length_nil];omega,all_nil,AR,AR⟩ ?_) (λ ⟨v,i⟩ b=>tS b);rintro ⟨v,i⟩ ⟨g,a,k,l⟩;dsimp only at g;refine tI AQ λ s _ f=>?_;have:=h.sp s f;rw[C2 (n:=s.base+i) AQ AQ,C2 (n:=s.base+i - 1) AQ AQ,C2 (n:=i+1) AQ AQ];refine tD (λ _=>tG AQ λ _=>tS ⟨⟨by dsimp only;rw[List.length_append];simp only[List.length_cons,List.length_nil];omega,Es a AQ,AR,AR⟩,AR⟩) (λ _=>tS ⟨AR,a⟩)
theorem Acv{C B S}{n}(h:NW C B S n)(s)(a:SG C B s)(a2 a3)(a4)(h2:0<=a2/\a2<(B:Int))(b:0<=a3/\a3<(B:Int)):DT (IB n s a2 a3 a4) (λ r=>r.length=B):=by
 have:=h.nb;have:=a.cl;have:=h.bc;have:=h.O4
 unfold IB;refine tG AQ λ _=>tG (by rw[BJ];omega) λ _=>tC (λ _=>tI (by rw[BJ];omega) λ _ _ _=>tS AW) (λ _=>tB (G5 s a) λ c e=>tG AQ λ _=>tI AQ λ _ _ _=>tI (by rw[BJ];omega) λ _ _ _=>tI AW λ _ _ _=>tS AW)
theorem Z2{C B S}{n}(h:NW C B S n)(s)(k:SG C B s)(a2 a3)(h2:0<=a2/\a2<(B:Int))(a:0<=a3/\a3<(B:Int)):DT (Jv n s a2 a3) (λ r=>r.1.length<=100/\∀x∈r.1,0<=x/\x<(B:Int)):=by
 unfold Jv;refine tB (P:=λ e=>match e with | .inl _=>True | .inr r=>r.1.length<=100/\∀x∈r.1,0<=x/\x<(B:Int)) (tL (λ i=>0<=i/\i<=2) (λ i=>(2 - i).toNat) AQ ?_) ?_
 . rintro i ⟨l,m⟩;refine tD (λ Dv=>tB (Acv h s k a2 a3 _ h2 a) λ b hb=>tB (ZD h.g b a2 a3 hb h2 a) λ p f=>tD (λ HU=>tG AQ λ _=>tS ⟨AW,Ar6 (Ar5 f.2.1)⟩) (λ _=>tS ?_)) (λ _=>tS trivial);rw[C2 AQ AQ];omega
 . rintro (v | r) j
   . exact tS ⟨AT,all_nil⟩
   . exact tS j
theorem Pk{C B}(s)(e:SG C B s)(l)(g:l.length<=1000)(a:∀x∈l,0<=x/\x<(C:Int)):DT (HH s l) (λ _=>True):=by
 have PY:=e.cl;unfold HH;refine tB (MF (Q:=λ _=>True) l (λ _=>True) trivial ?_ ?_) ?_
 . intro i x hx b _ f;have:=a x b;refine tD (λ _=>?_) (λ h=>AQ);rw[EO hx,Bd,EN AQ AQ (by omega:l.length<=100000000)];exact tI AQ λ _ _ _=>tC (λ _=>tS trivial) λ _=>tS ⟨rfl,trivial⟩
 . intro _;exact tD (λ h=>AQ) (λ _=>tS trivial)
 . rintro (v | r) _
   . exact tS trivial
   . exact tS trivial
theorem Abq{B C:Nat}(h:B<=C){l:Aa}(a:∀x∈l,0<=x/\x<(B:Int)):∀x∈l,0<=x/\x<(C:Int):=λ x hx=>by have:=a x hx;omega
theorem Avz{C B S}{n}(h:NW C B S n)(s)(j:SG C B s)(a2 a3)(h2:0<=a2/\a2<(C:Int))(q:0<=a3/\a3<(S:Int)):DT (NY n s a2 a3) (λ r=>r.1.length<=500/\∀x∈r.1,0<=x/\x<(C:Int)):=by
 have NN:=h.O4;have f:=h.bc;have Ut:=h.ns
 unfold NY;refine tB (Mf h a2 AQ) ?_;rintro ⟨z,u⟩ a;refine tD (λ e=>?_) (λ e=>tD (λ v=>?_) (λ v=>?_))
 . rcases a with a | a
   . omega
   rw[C2 AQ AQ];refine tB (Qc h a3 (u+1) q AQ) λ l o=>tB (Pk s j l AQ o.2) λ _ _=>tS ⟨AS,o.2⟩
 . rcases a with a | a
   . omega
   rw[C2 AQ AQ];refine tI AQ λ sp _ QZ=>tB (Qc h z (u+1) AQ AQ) λ l o=>tG AQ λ _=>tI AQ λ k _ g=>?_;have H:=h.sp sp QZ;have y:=h.sp k g
   refine tB (Z2 h s j sp.out k.PK AQ AQ) ?_;rintro ⟨p,w⟩ ⟨VF,b⟩;dsimp only at VF;have t:∀x∈l++[sp.out]++p,0<=x/\x<(C:Int):=Pw (Es o.2 AQ) (Abq f b);refine tG AW λ _=>tB (Qc h a3 1 q AQ) λ m i=>tG AW λ _=>tC (λ _=>tB (Pk s j _ AW (Pw t i.2)) λ _ _=>tC (λ _=>tS ⟨AW,Pw t i.2⟩) (λ _=>tS ⟨AT,all_nil⟩)) (λ _=>tS ⟨AT,all_nil⟩)
 . have E:a2<(B:Int):=by
     rcases a with a | a
     . exact WK h a.2 h2.2
     . omega
   refine tI AQ λ k _ g=>?_;have y:=h.sp k g;refine tB (Z2 h s j a2 k.PK AQ AQ) ?_;rintro ⟨p,w⟩ ⟨VF,b⟩;dsimp only at VF;refine tG AQ λ _=>tB (Qc h a3 1 q AQ) λ m i=>tG AQ λ _=>tC (λ _=>tB (Pk s j _ AW (Pw (Abq f b) i.2)) λ _ _=>tC (λ _=>tS ⟨AW,Pw (Abq f b) i.2⟩) (λ _=>tS ⟨AT,all_nil⟩)) (λ _=>tS ⟨AT,all_nil⟩)
theorem Auu{C B S U}{n}(h:NW C B S n)(s)(E:SG C B s){o}{q}(K:LK C U o q)(a3 a4 a5)(h3:0<=a3/\a3<(B:Int))(V:0<=a5/\a5<(S:Int)):DT (MC n s ⟨o,q⟩ a3 a4 a5) (λ r=>r.1.length<=500/\∀x∈r.1,0<=x/\x<(C:Int)):=by
 have NN:=h.O4;have j:=h.bc;have Ut:=h.ns;have a1:=h.nb;have PY:=E.cl;have a2:=K.ol;have a6:=K.ql;have a0:=h.g.gl
 unfold MC;refine tI AQ λ sp _ QZ=>tB (G5 s E) λ c hc=>tG AQ λ _=>tG AW λ _=>?_;have w:=h.sp sp QZ;refine tI AQ λ Q _ _=>tI AW λ _ _ _=>tI AW λ _ _ _=>?_;have u:(((c.take n.blocks.length).set sp.PK.toNat Q).set a3.toNat true).length=B:=AW;obtain ⟨d,I,Y,W⟩:=Yy h.g _ sp.PK u AQ;rw[I,Bd];refine tB (P:=λ e=>e.1=-1∨(0<=e.1/\e.1<(B:Int)/\∃x,d[e.1.toNat]?=some x/\0<=x)) (tL (λ t=>(t.1=-1∨(0<=t.1/\t.1<(B:Int)/\∃x,d[t.1.toNat]?=some x/\0<=x))/\0<=t.2/\t.2<=24) (λ t=>(24 - t.2).toNat) ⟨Or.inl rfl,AR,AR⟩ ?_) ?_
 . rintro ⟨b,k⟩ ⟨i,k2,k3⟩;refine tI AQ λ row El z=>tD (λ Dv=>tI AQ λ x _ hx=>?_) (λ _=>tS i);have hr:=h.g.gr row z;have Kl:=hr.2 x hx;rw[C2 AQ AQ];have f:∀a:Int,(a=-1∨(0<=a/\a<(B:Int)/\∃x,d[a.toNat]?=some x/\0<=x))->((a=-1∨(0<=a/\a<(B:Int)/\∃x,d[a.toNat]?=some x/\0<=x))/\0<=k+1/\k+1<=24)/\(24 - (k+1)).toNat<(24 - k).toNat:=λ a hb=>⟨⟨hb,AQ,AQ⟩,AQ⟩;refine tD (λ _=>tS (f b i)) λ _=>tI AW λ _ _ _=>tC (λ _=>tS (f b i)) λ _=>tI AS λ _ _ _=>tD (λ _=>tI AS λ _ _ _=>tD (λ _=>tS (f b i)) λ _=>tI AQ λ H l _=>tD (λ _=>tS (f b i)) λ Z=>tD (λ _=>tS (f x (Or.inr ⟨Kl.1,Kl.2,H,l,AQ⟩))) λ v=>?_) (λ _=>tS (f b i));refine tI AQ λ _ _ _=>tD (λ _=>tS (f x (Or.inr ⟨Kl.1,Kl.2,H,l,AQ⟩))) λ _=>tS (f b i)
 . rintro ⟨b,k⟩ hb;refine tD (λ _=>tS ⟨AT,all_nil⟩) λ v=>?_;rcases hb with e | ⟨e1,e2,x,R,T⟩
   . omega
   refine tB (ZD h.g _ b sp.PK u AQ AQ) λ p y=>tG (y.2.2 d x I R T) λ _=>tB (Qc h a5 1 V AQ) λ m N=>tG AQ λ _=>tB (Pk s E _ AW (Pw (Abq j y.2.1) N.2)) λ _ _=>tS ⟨AW,Pw (Abq j y.2.1) N.2⟩
theorem Ajj{C B S}{n}(h:NW C B S n)(s)(b:SG C B s):DT (LN n s) (λ r=>r.length=B):=by
 have NN:=h.O4;have m:=h.bc;have a:=h.nb;have PY:=b.cl
 have R6:(s.closed.take n.blocks.length).length=B:=AW;unfold LN;refine tG AQ λ _=>tB (G5 s b) λ c u=>tG AQ λ _=>tB (P:=λ e=>e.1.length=B) (tL (λ t=>t.1.length=B/\0<=t.2/\t.2<=(B:Int)) (λ t=>((B:Int) - t.2).toNat) ⟨by simp[a],AR,AR⟩ ?_) (λ ⟨v,i⟩ o=>tS o);rintro ⟨v,i⟩ ⟨k,q,E⟩;dsimp only at k;refine tD (λ Dv=>tB (Rl _ _ i h.g R6 AQ) λ f z=>tB (P:=λ _=>True) (tL (λ t=>0<=t.2.1/\t.2.1<=(B:Int)) (λ t=>((B:Int) - t.2.1).toNat) AR ?_) ?_) (λ _=>tS k)
 . rintro ⟨x,j,y⟩ ⟨l,H⟩;dsimp only at l;refine tD (λ So=>?_) (λ _=>tS trivial);rw[EN l So AQ];refine tI AQ λ _ _ _=>tC (λ _=>tS AR) λ _=>tC (λ _=>tC (λ _=>tS AR) λ _=>tB (Rl _ _ j h.g R6 AQ) λ w p=>tI AQ λ _ _ _=>tS AR) λ _=>tI AQ λ _ _ _=>tC (λ _=>tS AR) λ _=>tB (Rl _ _ j h.g R6 AQ) λ w p=>tI AQ λ _ _ _=>tS AR
 . rintro ⟨x,j,y⟩ _;rw[EN q Dv AQ];refine tC (λ _=>tI AQ λ _ _ _=>tS AU) (λ _=>tI AQ λ _ _ _=>tS AU)
theorem Ak6{C B S U}{n}(h:NW C B S n)(s)(p:SG C B s){o}{q}(f:LK C U o q)(Acp)(used)(u:Acp.length<=1000)(JH:∀r∈Acp,r.length<=1000)(w:used.length=S):DT (N1 n s ⟨o,q⟩ Acp used) (λ r=>r=true->s.C0≠[]):=by
 have j:=h.bc;have Ut:=h.ns;have l:=f.ol;have m:=f.ql;have t:=h.s6
 unfold N1;refine tD (λ _=>tS (λ e=>by cases e)) λ EH=>tI AQ λ x _ hx=>?_;have Kl:=p.pr x hx;have b:s.C0≠[]:=by intro e;rw[e] at EH;simp at EH
 refine tI AS λ _ _ _=>tD (λ _=>tI AS λ _ _ _=>tD (λ _=>tS (λ e=>by cases e)) λ _=>?_) (λ _=>tS (λ e=>by cases e));refine tB (P:=λ _=>True) (MF (Q:=λ _=>True) Acp (λ _=>True) trivial ?_ ?_) ?_
 . intro i r a g _ k;refine tD (λ _=>?_) (λ h=>AQ);rw[EO a,Bd,EN AQ AQ (by omega:Acp.length<=100000000)];exact tB (Mm r x (by have:=JH r g;omega)) λ _ _=>tC (λ _=>tS trivial) λ _=>tS ⟨rfl,trivial⟩
 . intro _;exact tD (λ h=>AQ) (λ _=>tS trivial)
 . rintro (v | r) _
   . refine tB (P:=λ _=>True) (MF (Q:=λ _=>True) n.CV (λ _=>True) trivial ?_ ?_) ?_
     . intro i r a g _ k;refine tD (λ _=>?_) (λ h=>AQ);refine tI AQ λ _ _ _=>?_;rw[EO a,Bd,EN AQ AQ (by omega:n.CV.length<=100000000)];exact tC (λ _=>tD (λ _=>tS trivial) λ _=>tD (λ _=>tS trivial) λ _=>tS ⟨rfl,trivial⟩) (λ _=>tS ⟨rfl,trivial⟩)
     . intro _;exact tD (λ h=>AQ) (λ _=>tS trivial)
     . rintro (v | r) _
       . exact tS λ _=>b
       . exact tS λ _=>b
   . exact tS λ _=>b
theorem KN(u):DT (Fa u) (λ r=>r=(decide (u.state=0)||decide (u.state=1))):=by
 unfold Fa;refine tD (λ e=>tS (by simp[e])) (λ e=>tS (by simp[e]))
theorem Ks(us)(f:us.length<=1000):DT (FA us) (λ _=>True):=by
 unfold FA;refine tB (P:=λ _=>True) (tL (λ s=>0<=s.2.2.2/\s.2.2.2<=(us.length:Int)) (λ s=>((us.length:Int) - s.2.2.2).toNat) AR ?_) (λ ⟨_,_,_,_⟩ _=>tS trivial);rintro ⟨a,b,c,i⟩ ⟨e,g⟩;dsimp only at e;refine tD (λ Dv=>?_) (λ _=>tS trivial);rw[EN e Dv AQ];refine tI AQ λ u _ _=>tD (λ _=>tB (KN u) λ _ _=>tC (λ _=>tC (λ _=>tS AR) λ _=>tS AR) λ _=>tS AR) (λ _=>tB (KN u) λ _ _=>tC (λ _=>tC (λ _=>tS AR) λ _=>tS AR) λ _=>tS AR)
theorem Ajo(us)(l:us.length<=1000):DT (Kg us) (λ r=>r=us.map (λ u=>if u.state=0∨u.state=1 then u.Ev else -2)):=by
 unfold Kg;refine tB (Awn (Q:=λ e=>e.1=us.map (λ u=>if u.state=0∨u.state=1 then u.Ev else -2)) us (λ u=>[if u.state=0∨u.state=1 then u.Ev else -2]) ?_ ?_) (λ ⟨_,_⟩ k=>tS k)
 . intro i x hx;have:=Fq hx;have hb:=Kb us i (λ u=>[if u.state=0∨u.state=1 then u.Ev else -2]) (by intro x;simp);rw[Pe.eq_1,EO hx,C2 AQ AQ,Bi (by omega:(i:Int)<((us.length:Nat):Int)),Bm,Bd];obtain ⟨r,f,g⟩:=KN x;have j:((us.take i).flatMap (λ u=>[if u.state=0∨u.state=1 then u.Ev else -2])).length+1<10000000:=AQ;rw[f,Bd,g,Bi j,Bm,Bm];by_cases a:x.state=0
   . simp[a]
   . by_cases b:x.state=1
     . simp[b]
     . simp[a,b]
 . rw[Pe.eq_1,Bj AQ,Bl];exact tS (TA _ _)
theorem Afl{C B S}{n}(h:NW C B S n)(a1)(b:0<=a1/\a1<(S:Int)):DT (KB n a1) (λ r=>(B:Int)<=r/\r<(C:Int)):=by
 have Ut:=h.ns;have:=h.O4
 unfold KB;refine tI AQ λ s _ a=>?_;have:=h.sp s a;rw[C2 (n:=s.base+s.Ei) AQ AQ,C2 AQ AQ];exact tS AQ
theorem Anr{n}{g}(b:GW n g):DT (Acw g) (λ _=>True):=by
 unfold Acw;refine tD (λ _=>tS trivial) λ _=>tB (P:=λ _=>True) (MF (Q:=λ _=>True) g (λ _=>True) trivial ?_ ?_) ?_
 . intro i row a e _ f;have l:=(b.gr row e).1;rw[Akm.eq_1,EN AQ AQ (by omega:g.length<=100000000)];refine tD (λ _=>tB (P:=λ _=>True) (MF (Q:=λ _=>True) row (λ _=>True) trivial ?_ ?_) ?_) (λ h=>AQ)
   . intro j x hx _ _ k;rw[Abb.eq_1,EO a,Bd,EN AQ AQ (by omega:row.length<=100000000)];refine tD (λ _=>?_) (λ h=>AQ);rw[EO hx,Bd,C2 AQ AQ];refine tD (λ _=>tS trivial) λ _=>tD (λ _=>tS trivial) λ _=>tD (λ _=>tS trivial) λ _=>tD (λ _=>tI AQ λ _ _ _=>tD (λ _=>tS trivial) λ _=>tS ⟨rfl,trivial⟩) λ _=>tS ⟨rfl,trivial⟩
   . intro _;rw[Abb.eq_1,EO a,Bd];exact tD (λ h=>AQ) (λ _=>tS trivial)
   . rintro (v | r) _
     . exact tS ⟨rfl,trivial⟩
     . exact tS trivial
 . intro _;exact tD (λ h=>AQ) (λ _=>tS trivial)
 . rintro (v | r) _
   . exact tS trivial
   . exact tS trivial
theorem Auo{n}{g}(e:GW n g)(a1)(m:a1.length=n):DT (Jf g a1) (λ _=>True):=by
 have l:=e.gl;have:=e.g24
 unfold Jf;have k:DT (Tg g a1) (λ _=>True):=by
   unfold Tg;exact tB (Anr e) λ _ _=>tC (λ _=>tD (λ _=>tS trivial) λ _=>tS trivial) λ _=>tS trivial
 refine tB k λ _ _=>tD (λ _=>tB (P:=λ _=>True) (tL (λ s=>0<=s.2/\s.2<=(n:Int)) (λ s=>((n:Int) - s.2).toNat) AR ?_) ?_) (λ _=>tS trivial)
 . rintro ⟨a,i⟩ ⟨q,t⟩;refine tD (λ Dv=>?_) (λ _=>tS trivial);rw[C2 (n:=i+1) AQ AQ];refine tI AQ λ _ _ _=>tC (λ _=>tS AR) λ _=>tB (Rl _ _ i e m AQ) λ f o=>tB (P:=λ _=>True) (MF (Q:=λ _=>True) g (λ _=>True) trivial ?_ ?_) ?_
   . intro j x hx _ _ p;rw[M8.eq_1,EN AQ AQ (by omega:g.length<=100000000)];exact tD (λ _=>tI AQ λ _ _ _=>tC (λ _=>tS ⟨rfl,trivial⟩) λ _=>tI AQ λ _ _ _=>tC (λ _=>tS ⟨rfl,trivial⟩) λ _=>tS trivial) (λ h=>AQ)
   . intro _;exact tD (λ h=>AQ) (λ _=>tS trivial)
   . rintro (v | r) _
     . exact tS AR
     . exact tS trivial
 . rintro (⟨a,b⟩ | r) _
   . exact tS trivial
   . exact tS trivial
theorem Ajk{C B S}{n}(h:NW C B S n)(a1)(b:a1.length=C):DT (IK n a1) (λ _=>True):=by
 have Ut:=h.ns;have e:=h.s6
 unfold IK;refine tB (P:=λ _=>True) (tL (λ s=>0<=s.2/\s.2<=(S:Int)) (λ s=>((S:Int) - s.2).toNat) AR ?_) (λ ⟨_,_⟩ _=>tS trivial);rintro ⟨a,i⟩ ⟨f,g⟩;refine tD (λ Dv=>?_) (λ _=>tS trivial);rw[C2 (n:=i+1) AQ AQ];refine tI AQ λ _ _ _=>tC (λ _=>tB (Uc h a1 i b AQ) λ _ _=>tC (λ _=>tS AR) λ _=>tS AR) λ _=>tS AR
theorem M5{C B S}{n}(h:NW C B S n)(a1)(a2)(e:a1.length=C):DT (G6 n a1 a2) (λ _=>True):=by
 have:=h.nb;have:=h.bc
 unfold G6;refine tG AQ λ _=>tB (Auo h.g _ AW) ?_;rintro ⟨a,b⟩ _;exact tC (λ _=>tB (Ajk h a1 e) λ _ _=>tS trivial) λ _=>tS trivial
theorem Arc{C B S}{n}(h:NW C B S n)(a1)(a2 a3)(b:a1.length=C)(h2:0<=a2/\a2<(C:Int)):DT (La n a1 a2 a3) (λ _=>True):=by
 have:=h.O4;unfold La;have e:DT (KY a1 a2) (λ r=>r.length=C):=by
   unfold KY;exact tG AQ λ _=>tI AQ λ _ _ _=>tS (by simpa using b)
 exact tI AQ λ _ _ _=>tC (λ _=>tS trivial) λ _=>tB e λ w a=>tB (M5 h w a3 a) λ _ _=>tS trivial
theorem Aqs{C B S}{n}(h:NW C B S n)(a1):DT (Jy n a1) (λ r=>r=0->0<=a1/\a1<(C:Int)):=by
 unfold Jy;rw[h.vd,Bd,Bm,h.cs];exact tD (λ _=>tS (λ e=>AQ)) λ _=>tD (λ _=>tS (λ e=>AQ)) λ _=>tS (λ _=>AQ)
theorem Aun{C B S}{n}(h:NW C B S n)(a1)(k:0<=a1/\a1<(C:Int)):DT (KZ n a1) (λ r=>r.length<=1000):=by
 have Ut:=h.ns;have q:=h.s6;have NN:=h.O4;have l:=h.g.gl;have j:=h.g.g24
 unfold KZ;refine tB (Mf h a1 AQ) ?_;rintro ⟨f,z⟩ a;refine tD (λ p=>?_) λ u=>?_
 . have hx:0<=f/\f<(S:Int):=by rcases a with e | e<;>omega
   exact tB (Afl h f hx) λ _ _=>tD (λ _=>tI AQ λ _ _ _=>tS AT) λ _=>tS AT
 . have t:a1<(B:Int):=by
     rcases a with a | a
     . exact WK h a.2 k.2
     . omega
   refine tI AQ λ row _ b=>?_;have w:=(h.g.gr row b).1;refine tG AQ λ _=>tB (P:=λ e=>e.1.length<=1000) (tL (λ s=>(s.1.length:Int)<=24+s.2/\0<=s.2/\s.2<=(S:Int)) (λ s=>((S:Int) - s.2).toNat) AR ?_) (λ ⟨_,_⟩ m=>tS m);rintro ⟨v,i⟩ ⟨o,x,y⟩;dsimp only at o;refine tD (λ Dv=>tI AQ λ _ _ _=>?_) (λ _=>tS AR);rw[C2 (n:=i+1) AQ AQ];exact tD (λ _=>tG AQ λ _=>tS AU) λ _=>tS AR
theorem Aak{C B S}{n}(h:NW C B S n)(a1 a2):DT (JA n a1 a2) (λ r=>r=true->0<=a2/\a2<(C:Int)):=by
 unfold JA;refine tB (Aqs h a1) λ x hx=>tD (λ e=>tB (Aqs h a2) λ y b=>tD (λ a=>tB (Aun h a1 (hx e)) λ l f=>tB (Mm l a2 AQ) λ _ _=>tS (λ _=>b a)) (λ _=>tS (λ e=>by cases e))) (λ _=>tS (λ e=>by cases e))
theorem tJ{α β:Type}{l:List α}{i}{v}{f}{Q:β->Prop}(h:0<=i/\i<(l.length:Int))(k:DT (f v) Q):DT (Option.bind (CU (l.set i.toNat v) i) f) Q:=by
 refine tI (by rw[Bv];exact h) λ x hx _=>?_;rw[gs AQ] at hx;cases hx;exact k
theorem tT{α β:Type}{x}{f:α->Option β}{Q:β->Prop}{a:α}(h:x=some a)(k:DT (f a) Q):DT (Option.bind x f) Q:=by rw[h];exact k
def DX.net(d:DX):Nt:=⟨d.blocks,d.next,d.CV,d.C8,d.cq,d.ca,d.cd,d.cp⟩
def DX.sg(d:DX):Me:=⟨d.closed,d.Dp,d.C0⟩
def KG(u:KP):Int:=if u.Ff=-1 then u.cell else u.Ff
def core(u:KP):Int×Int×Int×Int×Int:=(u.state,u.cell,u.Ff,u.DY,u.Dx)
structure DK(C B S U T:Nat)(d:DX):Prop where
 n:NW C B S d.net
 k:LK C U d.CQ d.CR
 s:SG C B d.sg
 ul:d.CO.length=U
 uo:∀u∈d.CO,VM C S T u
 tl:d.CS.length=T
 t32:T<=32
 to:∀t∈d.CS,TOK S U t
theorem DK.N8{C B S U T}{d}(h:DK C B S U T d)(i)(v)(a:VM C S T v):DK C B S U T {d with CO:=d.CO.set i v}:=
 ⟨h.n,h.k,h.s,by rw[Bv];exact h.ul,ES h.uo a,h.tl,h.t32,h.to⟩
theorem Y6(u):IL u=some (KG u):=by
 unfold IL KG;by_cases e:u.Ff=-1<;>simp[e]
theorem VM.last{C S T}{u}(h:VM C S T u):-1<=KG u/\KG u<(C:Int):=by unfold KG;split;exact h.ce;exact h.tt
theorem VM.Adg{C S T}{u}(h:VM C S T u)(a:u.state=1):0<=KG u:=by
 have:=h.ac a;have:=h.tt;unfold KG;split<;>omega
theorem D3{α β:Type}{f:α->β}{l:List α}{i}{x v}(h:l[i]?=some x)(e:f v=f x):(l.set i v).map f=l.map f:=by
 apply List.ext_getElem?;intro j;rw[BC,BH];by_cases c:i=j
 . subst c;rw[if_pos rfl,if_pos (Fq h),BC,h];simp[e]
 . rw[if_neg c,BC]
theorem XY{C B S}{n}(h:NW C B S n)(a1)(l:-1<=a1/\a1<(C:Int)):DT (K2 n a1) (λ r=>r.length<=100/\∀x∈r,0<=x/\x<(C:Int)):=by
 have NN:=h.O4;have Ut:=h.ns
 unfold K2;refine tB (Mf h a1 AQ) ?_;rintro ⟨p,q⟩ a;rw[C2 AQ AQ];refine tB (P:=λ e=>e.1.length<=100/\∀x∈e.1,0<=x/\x<(C:Int)) (tL (λ s=>(s.1.length:Int)<=s.2/\(∀x∈s.1,0<=x/\x<(C:Int))/\0<=s.2/\s.2<=(C:Int)+1) (λ s=>((C:Int)+1 - s.2).toNat) ⟨by dsimp only;simp only[List.length_nil];omega,all_nil,AR,AR⟩ ?_) (λ ⟨v,i⟩ f=>tS f);rintro ⟨v,i⟩ ⟨j,b,m,o⟩;dsimp only at j;refine tD (λ k=>?_) (λ _=>tS ⟨AR,b⟩);rcases a with a | a
 . omega
 refine tI AQ λ s _ g=>?_;have:=h.sp s g;rw[C2 (n:=s.base+s.Ei) AQ AQ,C2 (n:=i+1) AQ AQ];refine tD (λ _=>tG AQ λ _=>tS ⟨⟨by dsimp only;rw[List.length_append];simp only[List.length_cons,List.length_nil];omega,Es b AQ,AR,AR⟩,AR⟩) (λ _=>tS ⟨AR,b⟩)
theorem Abk{C B S}{n}(h:NW C B S n)(a1)(a:a1<(C:Int)):DT (K3 n a1) (λ r=>-1<=r/\r<(S:Int)):=by
 have NN:=h.O4;have Ut:=h.ns
 unfold K3;refine tD (λ _=>tS AQ) λ _=>tB (Mf h a1 AQ) ?_;rintro ⟨e,f⟩ b;exact tD (λ _=>tI AQ λ _ _ _=>tC (λ _=>tS AQ) λ _=>tS AQ) λ _=>tS AQ
theorem Ft(d)(a b c)(h:d.CP.length<=1000000):DT (HE d a b c) (λ r=>r=d.CP++[⟨0,a,b,c⟩]/\r.length=d.CP.length+1):=by
 unfold HE;exact tG AQ λ _=>tS ⟨rfl,AT⟩
theorem Zs(d)(a)(x)(h:d.CP.length<=1000000)(b:0<=a/\a<(d.CO.length:Int))(hx:d.CO[a.toNat]?=some x):DT (RE d a) (λ r=>r.1=d.CO.set a.toNat {x with state:=3,Ev:=-2}/\r.2.length=d.CP.length+1):=by
 unfold RE;refine tI b λ y e _=>tJ b ?_;obtain rfl:x=y:=by rw[hx] at e;exact Bf e
 rw[Cr];exact tB (Ft _ _ _ _ h) λ r f=>tS ⟨rfl,f.2⟩
theorem Mc{C B S U T}{d}(h:DK C B S U T d)(a)(t:0<=a/\a<(U:Int))(g:d.CP.length<=1000000):DT (G2 d a) (λ r=>DK C B S U T {d with CQ:=r.1,CR:=r.2.1,CO:=r.2.2.1,CP:=r.2.2.2}/\r.1=d.CQ/\r.2.2.1.map core=d.CO.map core/\r.2.2.1.length=d.CO.length/\r.2.2.2.length<=d.CP.length+1):=by
 have o:=h.ul;have q:=h.k.u8
 unfold G2;refine tB (Ak7 h.k a AQ) ?_;rintro ⟨l,c,e⟩ i;rcases i with ⟨b,_⟩ | ⟨b,h2,f,_⟩
 . exact tD (λ h=>absurd h b) λ _=>tS ⟨h,rfl,rfl,rfl,AR⟩
 . refine tD (λ _=>tI AQ λ x hx j=>tB (Ft _ _ _ _ g) λ r m=>tS ?_) (λ h=>absurd b h);have p:VM C S T {x with wait:=0}:=by have:=h.uo x j;exact ⟨this.1,this.2,this.3,this.4,this.5,this.6,this.7⟩
   refine ⟨⟨h.n,by dsimp only;rw[h2];exact f,h.s,by simpa using o,ES h.uo p,h.tl,h.t32,h.to⟩,h2,D3 hx rfl,AT,by have:=m.2;dsimp only at this ⊢;omega⟩
theorem Zt{C B S U T}{d}(h:DK C B S U T d)(u)(g:VM C S T u):DT (Ms d u) (λ r=>-2<=r/\r<(S:Int)/\(u.Dx=1∨u.Dx=2->0<=u.DY->0<=r)):=by
 have hm:=g.hm;have tk:=g.tk;have R6:=h.tl
 unfold Ms;refine tD (λ e=>tS ⟨hm.1,hm.2,λ b=>AQ⟩) λ _=>tD (λ i=>tD (λ a=>tI AQ λ t _ f=>tS ?_) λ a=>tD (λ j=>AQ) λ _=>tS ⟨AQ,AQ,λ _ b=>absurd b a⟩) λ _=>tD (λ i=>tD (λ a=>tI AQ λ t _ f=>tS ?_) λ a=>tS ⟨AQ,AQ,λ _ b=>absurd b a⟩) λ _=>tS ⟨AQ,AQ,λ b=>AQ⟩
 . have:=(h.to t f).pk;exact ⟨AQ,AQ,λ _ _=>AQ⟩
 . have:=(h.to t f).dr;exact ⟨AQ,AQ,λ _ _=>AQ⟩
theorem Aqh{C B S U T}{d}(h:DK C B S U T d)(u)(a:VM C S T u):DT (JG d u) (λ _=>True):=by
 have PY:=h.s.cl;have e:=a.rl;unfold JG;refine tB (P:=λ _=>True) (MF (Q:=λ _=>True) u.De (λ _=>True) trivial ?_ ?_) ?_
 . intro i x hx b _ j;have:=a.rt x b;refine tD (λ _=>?_) (λ h=>AQ);rw[EO hx,Bd,EN AQ AQ (by omega:u.De.length<=100000000)];exact tI (by unfold DX.sg at PY;dsimp only at PY;omega) λ _ _ _=>tC (λ _=>tS trivial) λ _=>tS ⟨rfl,trivial⟩
 . intro _;exact tD (λ h=>AQ) (λ _=>tS trivial)
 . rintro (v | r) _
   . refine tB (Zt h u a) λ g f=>tD (λ _=>tD (λ _=>tT (Y6 u) (tB (Afl h.n g AQ) λ _ _=>tS trivial)) λ _=>tS trivial) λ _=>tS trivial
   . exact tS trivial
theorem Aad{C B S U T}{d}(h:DK C B S U T d)(u)(f:VM C S T u):DT (NO d u) (λ r=>r.2=true->u.state=1/\u.Dx=0):=by
 unfold NO;refine tD (λ e=>tD (λ b=>tD (λ _=>tB (Abk h.n u.cell f.ce.2) λ r g=>tD (λ _=>tB (Afl h.n r AQ) λ _ _=>tS (λ _=>⟨e,b⟩)) λ _=>tS (λ a=>by cases a)) λ _=>tS (λ a=>by cases a)) λ _=>tS (λ a=>by cases a)) λ _=>tS (λ a=>by cases a)
theorem Aj7{C B S U T}{d}(h:DK C B S U T d):DT (UJ d) (λ r=>r.length=C):=by
 unfold UJ;exact tB (G5 _ h.s) λ r a=>tS a
theorem Atz{C B S U T}{d}(h:DK C B S U T d):DT (TX d) (λ _=>True):=by
 have:=h.ul;have:=h.k.u8
 unfold TX;refine tB (Ks _ AQ) ?_;rintro ⟨a,b,c⟩ _;exact tB (Aj7 h) λ s e=>tB (M5 h.n s b e) λ _ _=>tC (λ _=>tS trivial) λ _=>tS trivial
theorem Apz{C B S U T}{d}(h:DK C B S U T d)(a)(f:0<=a/\a<(S:Int)):DT (QN d a) (λ _=>True):=by
 have PY:d.closed.length=C:=h.s.cl;have Ut:d.CV.length=S:=h.n.ns;have NN:=h.n.O4;have:=h.n.bc
 unfold QN;refine tI AQ λ s _ b=>tB (Ajj h.n _ h.s) λ k e=>?_;have:=h.n.sp s b;refine tB (P:=λ _=>True) (tL (λ i=>s.base<=i/\i<=s.base+s.Ei) (λ i=>(s.base+s.Ei - i).toNat) AQ ?_) ?_
 . rintro i ⟨g,j⟩;rw[WC.eq_1,C2 (n:=s.base+s.Ei) AQ AQ,C2 (n:=i+1) AQ AQ];exact tD (λ _=>tI AQ λ _ _ _=>tC (λ _=>tS trivial) λ _=>tS AR) λ _=>tS trivial
 . rintro (v | r) _
   . exact tI AQ λ _ _ _=>tC (λ _=>tI AQ λ _ _ _=>tS trivial) λ _=>tS trivial
   . exact tS trivial
theorem Af3{C B S U T}{d}(h:DK C B S U T d)(a)(e:0<=a/\a<(T:Int)):DT (QQ d a) (λ _=>True):=by
 have Ut:d.CV.length=S:=h.n.ns;have R6:=h.tl;have b:=h.n.s6
 unfold QQ;refine tB (P:=λ _=>True) (tL (λ i=>0<=i/\i<=(S:Int)) (λ i=>((S:Int) - i).toNat) AQ ?_) ?_
 . rintro i ⟨f,g⟩;refine tD (λ Dv=>?_) λ _=>tS trivial;rw[C2 (n:=i+1) AQ AQ];exact tI AQ λ t _ _=>tB (ZQ t i) λ _ _=>tC (λ _=>tB (Apz h i AQ) λ _ _=>tC (λ _=>tS AR) λ _=>tS trivial) λ _=>tS AR
 . rintro (v | r) _
   . exact tS trivial
   . exact tS trivial
theorem Bb8{C B S U T}{d}(h:DK C B S U T d)(u)(f:VM C S T u):DT (Yi d u) (λ r=>r=true->u.state=1):=by
 have PY:d.closed.length=C:=h.s.cl;have Ut:d.CV.length=S:=h.n.ns;have NN:=h.n.O4;have:=h.n.bc
 unfold Yi;refine tD (λ e=>tB (Ajj h.n _ h.s) λ z q=>tT (Y6 u) ?_) λ _=>tS (λ j=>by cases j);have k:=f.last;have m:=f.Adg e
 refine tB (Mf h.n (KG u) AQ) ?_;rintro ⟨E,H⟩ a;refine tD (λ y=>?_) λ g=>?_
 . have t:KG u<(B:Int):=by
     rcases a with a | a
     . exact WK h.n a.2 k.2
     . omega
   exact tI AQ λ _ _ _=>tS λ _=>e
 . refine tB (XY h.n (KG u) AQ) λ l b=>tB (P:=λ _=>True) (MF (Q:=λ _=>True) l (λ _=>True) trivial ?_ ?_) ?_
   . intro i x hx o _ w;have:=b.2 x o;refine tD (λ _=>?_) (λ h=>AQ);rw[EO hx,Bd,EN AQ AQ (by omega:l.length<=100000000)];exact tI AQ λ _ _ _=>tC (λ _=>tS trivial) λ _=>tS ⟨rfl,trivial⟩
   . intro _;exact tD (λ h=>AQ) (λ _=>tS trivial)
   . rintro (v | r) _
     . refine tD (λ _=>tS λ _=>e) λ _=>tI (by rcases a with a | a<;>omega) λ s _ p=>?_;have:=h.n.sp s p;exact tI AQ λ _ _ _=>tS λ _=>e
     . exact tS λ _=>e
theorem VJ{C B S U T}{d}(h:DK C B S U T d):DT (Iq d) (λ r=>r.length<=U/\∀x∈r,0<=x/\x<(U:Int)/\∃u,d.CO[x.toNat]?=some u/\u.state=1):=by
 have OY:=h.ul;have:=h.k.u8
 unfold Iq;refine tB (P:=λ e=>e.1.length<=U/\∀x∈e.1,0<=x/\x<(U:Int)/\∃u,d.CO[x.toNat]?=some u/\u.state=1) (tL (λ s=>(s.1.length:Int)<=s.2/\(∀x∈s.1,0<=x/\x<(U:Int)/\∃u,d.CO[x.toNat]?=some u/\u.state=1)/\0<=s.2/\s.2<=(U:Int)) (λ s=>((U:Int) - s.2).toNat) ⟨AT,all_nil,AR,AR⟩ ?_) (λ ⟨v,i⟩ f=>tS f);rintro ⟨v,i⟩ ⟨l,a,m,n⟩;dsimp only at l;refine tD (λ Dv=>?_) λ _=>tS ⟨AR,a⟩;rw[C2 AQ AQ];refine tI AQ λ u j g=>tB (Bb8 h u (h.uo u g)) λ b hb=>tC (λ e=>tG AQ λ _=>tS ⟨⟨?_,Es a ⟨AQ,AQ,u,j,hb e⟩,AR,AR⟩,AR⟩) λ _=>tS ⟨⟨AR,a,AR,AR⟩,AR⟩;rw[Bw];simp only[Br,Bz];omega
theorem DK.Bd8{C B S U T}{d}(h:DK C B S U T d)(s)(a:SG C B s):DK C B S U T {d with closed:=s.closed,Dp:=s.Dp,C0:=s.C0}:=
 ⟨h.n,h.k,a,h.ul,h.uo,h.tl,h.t32,h.to⟩
theorem Agq{C B S U T}{d}(h:DK C B S U T d)(a)(e:0<=a/\a<(C:Int)):DT (MY d a) (λ _=>True):=by
 have R6:=h.tl;have:=h.t32
 unfold MY;refine tB (Q6 _ a (-1) h.s e) λ s f=>?_;have h2:=h.Bd8 s f.1;refine tB (VJ h2) λ l _=>tB (P:=λ _=>True) (tL (λ s=>0<=s.2/\s.2<=(T:Int)) (λ s=>((T:Int) - s.2).toNat) AR ?_) (λ ⟨_,_⟩ _=>tS trivial);rintro ⟨b,i⟩ ⟨g,j⟩;refine tD (λ Dv=>?_) λ _=>tS trivial;rw[C2 AQ AQ];exact tC (λ _=>tB (Af3 h2 i AQ) λ _ _=>tS AR) λ _=>tS AR
end Go.Am
end
