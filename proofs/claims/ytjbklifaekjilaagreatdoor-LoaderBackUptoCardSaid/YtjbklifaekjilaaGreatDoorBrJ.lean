/- Texts of this proof, what it rests on, merged: part J. -/
import Derived.Test.YtjbklifaekjilaaGreatDoorBrI
noncomputable section
namespace Go.Am
open Go Go.Proofs
open Tryz
set_option maxRecDepth 100000
set_option linter.unusedVariables false
set_option linter.unusedSimpArgs false
set_option maxHeartbeats 2000000
theorem Aji(a0:List (List Int))(r:(List (List Int))×Int)(hr:QH a0=some r):
   BZ prog 38 [.p (.sl (Cr a0))] [] λ h d=>h=[]/\d= .Dg [.p (.sl (Cr r.1)),.p (.int .i64 r.2)]:=by
 refine B1 func38 rfl Amp (by simp[Tryz.f38]) ?_;unfold QH at hr;obtain ⟨x1,g2,hr⟩:=bE hr;try simp only[go_sem]
 refine Cq (Ajg a0 _ g2) ?_;cases c3:x1
 . simp only[c3,Aj] at hr;cases hr;(try simp only[go_sem,c3]);all_goals ((try refine BY ?_);(try simp only[go_sem,c3]);try first | rfl | exact ⟨rfl,rfl⟩ | (simp;done))
 simp only[c3,Ak] at hr;obtain ⟨c4,hr⟩:=gE hr;try simp only[go_sem,c3]
 refine Aox (n:=((a0.length:Nat):Int)) (sz:=1) rfl Adi Ain (by decide) rfl rfl rfl (by have:=Ad c4;omega) (by have:=Ad c4;omega) (by have:=Ad c4;omega) ?_;obtain ⟨e15,g16,hr⟩:=bE hr;try simp only[go_sem]
 refine SJ g16 (λ (q:(List (List Int))×Int) (c:Nat)=>⟨[(4,.Di 14 q.1.length),(15,.p (.sl (Cr a0))),(16,.p (.int .i64 ((a0.length:Nat):Int))),(17,.p (.int .i64 q.2))],[(14,.Dj 22 3 1 c (J9 q.1) none)],41⟩) 0 ((Wk.forget (by simp[ZF,ZE,Ec,GB,GD,Ft,GC,A5,Dv,At,c3]))) ?_;rintro ⟨v9,v10⟩ Bat m14 Ev Aki;rw[M6.eq_1] at Ev;cases ML:decide (v10<((a0.length:Nat):Int))
 . simp only[ML,Aj] at Ev;simp only[Aa,B2] at Ev;cases Ev;(try dsimp only at hr);cases hr;(try simp only[go_sem,ML]);all_goals ((try refine BY ?_);(try simp only[go_sem,ML]);try first | rfl | exact ⟨rfl,rfl⟩ | (simp;done))
 simp only[ML,Ak] at Ev;obtain ⟨UE,g19,Ev⟩:=bK Ev;have f20:=B9 g19;have f21:(Cr a0).getD (Int.toNat v10) []=[(.sl (BX UE))]:=Ca _ g19;obtain ⟨e32,g33,Ev⟩:=bK Ev;try simp only[go_sem,ML,f20,f21]
 refine SJ g33 (λ (q:(List (List Int))×Int) (c:Nat)=>⟨[(4,.Di 14 q.1.length),(5,.p (.int .i64 v10)),(15,.p (.sl (Cr a0))),(16,.p (.int .i64 ((a0.length:Nat):Int))),(17,.p (.int .i64 v10)),(22,.p (.sl (BX UE))),(23,.p (.int .i64 ((UE.length:Nat):Int))),(24,.p (.int .i64 q.2))],[(14,.Dj 22 3 1 c (J9 q.1) none)],41⟩) Bat ((Wk.forget (by simp[ZF,ZE,Ec,GB,GD,Ft,GC,A5,Dv,At,c3]))) ?_;rintro ⟨v26,O4⟩ Ax1 m31 Fs Aqe;rw[M7.eq_1] at Fs;cases Rv:decide (O4<((UE.length:Nat):Int))
 . simp only[Rv,Aj] at Fs;simp only[Aa,B2] at Fs;cases Fs;(try dsimp only at Ev);simp only[Aa,B4] at Ev;(try simp only[go_sem,Rv]);exact Aki (v26,(IntKind.i64.wrap (v10+1))) Ax1 _ Ev ((Wk.forget (by simp[ZF,ZE,Ec,GB,GD,Ft,GC,A5,Dv,At,c3])))
 simp only[Rv,Ak] at Fs;obtain ⟨p0,g36,Fs⟩:=bK Fs;have f37:=B9 g36;have f38:(BX UE).getD (Int.toNat O4) []=[(.int .i64 p0)]:=Ca _ g36;obtain ⟨x39,g40,Fs⟩:=bK Fs;have f41:=B9 g40;have f42:(J9 v26).getD (Int.toNat p0) []=BX x39:=Akk g40;have f43:(J9 v26)[(Int.toNat p0)]?.getD []=BX x39:=Af1 g40;have f44:(Int.toNat p0)<v26.length:=Aql g40;have f45:∀hx,(J9 v26)[(Int.toNat p0)]'hx=BX x39:=Af0 g40;obtain ⟨c46,Fs⟩:=gK Fs;try simp only[go_sem,Rv,f37,f38,f41,f42,f43,f44,f45]
 refine ⟨by have:=Ad c46;(try simp only[Ar,Az,Au] at*);(repeat' refine And.intro ?_ ?_)<;>first | exact EB _ _ rfl | exact Jy _ | omega | (simp[LI];done),?_⟩;simp only[Aa,B4] at Fs;try simp only[go_sem,f41,f42,f43,f44,f45]
 exact Aqe ((v26.set (Int.toNat p0) (x39++[v10])),(IntKind.i64.wrap (O4+1))) ((Ax1+1)+1) _ Fs ((Wk.forget (by simp[ZF,ZE,Ec,GB,GD,Ft,GC,A5,Dv,At,c3])))
def I0(a1:List Bool)(SL:List Int):(List Int)×(List Bool)×Int->Option (((List Int)×(List Bool)×Int)⊕(((List Int)×(List Bool)×Int)))
 | (v41,v42,HN)=>cond (decide (HN<((SL.length:Nat):Int))) (Option.bind (CE SL HN) λ X9=>Option.bind (CE a1 X9) λ x54=>cond x54 (some (Sum.inl (v41,v42,(IntKind.i64.wrap (HN+1))))) (Option.bind (Si 24 v42 X9) λ x59=>cond x59 (some (Sum.inl (v41,v42,(IntKind.i64.wrap (HN+1))))) (cond (decide (v41.length+1<10000000)) (some (Sum.inl ((v41++[X9]),(v42.set (Int.toNat X9) true),(IntKind.i64.wrap (HN+1))))) none))) (some (Sum.inr (v41,v42,HN)))
def IZ(a0:List (List Int))(a1:List Bool):(List Int)×(List Bool)->Option (((List Int)×(List Bool))⊕(((List Int)×(List Bool))))
 | (WS,NR)=>cond (decide (0<((WS.length:Nat):Int))) (Option.bind (CE WS (IntKind.i64.wrap (((WS.length:Nat):Int) - 1))) λ NQ=>cond (decide (0<=(IntKind.i64.wrap (((WS.length:Nat):Int) - 1))/\(IntKind.i64.wrap (((WS.length:Nat):Int) - 1))<=((WS.length:Nat):Int))) (Option.bind (CE a0 NQ) λ SL=>Option.bind (Cv (I0 a1 SL) ((WS.take (Int.toNat (IntKind.i64.wrap (((WS.length:Nat):Int) - 1)))),NR,0)) (λ (v68,v69,v70)=>some (Sum.inl (v68,v69)))) none) (some (Sum.inr (WS,NR)))
def Ii(a0:List (List Int))(a1:List Bool)(a2:Int):Option ((List Bool)):=
 Option.bind (CE a1 a2) λ x1=>cond x1 (some (List.replicate 24 false)) (Option.bind (Si 24 (List.replicate 24 false) a2) λ x6=>Option.bind (Cv (IZ a0 a1) ([a2],((List.replicate 24 false).set (Int.toNat a2) true))) (λ (v71,v72)=>cond (decide (v72.length=24)) (some v72) none))
theorem Te(a0:List (List Int))(a1:List Bool)(a2:Int)(r:(List Bool))(hr:Ii a0 a1 a2=some r):
   BZ prog 39 [.p (.sl (Cr a0)),.p (.sl (CT a1)),.p (.int .i64 a2)] [] λ h d=>h=[]/\d= .agg (dT r):=by
 refine B1 func39 rfl Amo (by simp[Tryz.f39]) ?_;unfold Ii at hr;obtain ⟨x1,g2,hr⟩:=bE hr;have f3:=B9 g2;have f4:(CT a1).getD (Int.toNat a2) []=[(.bool x1)]:=Ca _ g2;cases c5:x1
 . simp only[c5,Aj] at hr;obtain ⟨x6,g7,hr⟩:=bE hr;obtain ⟨f8,f9q,f10,f11⟩:=Nc g7;have f9:0<=a2/\a2<24:=by omega
   have f12:(Int.toNat a2)<=23:=by omega
   obtain ⟨e20,g21,hr⟩:=bE hr;(try simp only[go_sem,f3,f4,c5,f8,f9,f10,f11,f12]);refine CQ g21 (λ q:(List Int)×(List Bool)=>⟨[(0,.p (.sl (Cr a0))),(1,.p (.sl (CT a1))),(6,.ptr 6 0),(7,.ptr 7 0),(8,.ref 20 0 q.1.length q.1.length)],[(6,.box (dT (List.replicate 24 false))),(7,.box (dT q.2)),(20,.arr 3 1 (BX q.1))],63⟩) ((Wk.forget (by simp[ZF,ZE,Ec,GB,GD,Ft,GC,A5,Dv,At,c5]))) ?_;rintro ⟨WS,NR⟩ m19 El Aqh;rw[IZ.eq_1] at El;cases SF:decide (0<((WS.length:Nat):Int))
   . simp only[SF,Aj] at El;simp only[Aa,B2] at El;cases El;(try dsimp only at hr);obtain ⟨WG,hr⟩:=gE hr;have f24:=Ad WG;have f25:=Ad WG;cases hr;(try simp only[go_sem,SF,f24,f25]);all_goals ((try refine BY ?_);(try simp only[go_sem,SF,f24,f25]);try first | rfl | exact ⟨rfl,rfl⟩ | (simp;done))
   simp only[SF,Ak] at El;obtain ⟨NQ,g27,El⟩:=bK El;have f28:=B9 g27;have f29:(BX WS).getD (Int.toNat (IntKind.i64.wrap (((WS.length:Nat):Int) - 1))) []=[(.int .i64 NQ)]:=Ca _ g27;obtain ⟨OO,El⟩:=gK El;have f31:=Ad OO;have f32:(Int.toNat (IntKind.i64.wrap (((WS.length:Nat):Int) - 1)))<=WS.length:=by omega
   have f33:(((IntKind.i64.wrap (((WS.length:Nat):Int) - 1))) - 0).toNat=(Int.toNat (IntKind.i64.wrap (((WS.length:Nat):Int) - 1))):=by simp
   obtain ⟨SL,g35,El⟩:=bK El;have f36:=B9 g35;have f37:(Cr a0).getD (Int.toNat NQ) []=[(.sl (BX SL))]:=Ca _ g35;obtain ⟨e47,g48,El⟩:=bK El;(try simp only[go_sem,SF,f28,f29,f31,f33,f36,f37]);refine CQ g48 (λ q:(List Int)×(List Bool)×Int=>⟨[(0,.p (.sl (Cr a0))),(1,.p (.sl (CT a1))),(6,.ptr 6 0),(7,.ptr 7 0),(8,.ref 300020 0 q.1.length q.1.length),(38,.p (.sl (BX SL))),(39,.p (.int .i64 ((SL.length:Nat):Int))),(40,.p (.int .i64 q.2.2))],[(6,.box (dT (List.replicate 24 false))),(7,.box (dT q.2.1)),(300020,.arr 3 1 (BX q.1))],63⟩) ((Wk.Y3 (t:=8) (q:=20) (k:=(Int.toNat (IntKind.i64.wrap (((WS.length:Nat):Int) - 1)))) (sz:=1) (e:=3) (es:=BX WS) 300020 (by simp[get,ZE,f32]) (by simp[get,ZE,f32]) (by simp[ZE,f32]) rfl).trans ((Wk.forget (by simp[ZF,ZE,Ec,GB,GD,Ft,GC,A5,Dv,At,c5,f32,Nat.min_eq_left f32])))) ?_;rintro ⟨v41,v42,HN⟩ m46 Jq Aua;rw[I0.eq_1] at Jq;cases c49:decide (HN<((SL.length:Nat):Int))
   . simp only[c49,Aj] at Jq;simp only[Aa,B2] at Jq;cases Jq;(try dsimp only at El);simp only[Aa,B4] at El;(try simp only[go_sem,c49]);exact Aqh (v41,v42) _ El ((Wk.Y3 (t:=8) (q:=300020) (k:=v41.length) (sz:=1) (e:=3) (es:=BX v41) 20 (by simp[get,ZE]) (by simp[get,ZE]) (by simp[ZE]) rfl).trans ((Wk.forget (by simp[ZF,ZE,Ec,GB,GD,Ft,GC,A5,Dv,At,c5,f32,Nat.min_eq_left f32]))))
   simp only[c49,Ak] at Jq;obtain ⟨X9,g51,Jq⟩:=bK Jq;have f52:=B9 g51;have f53:(BX SL).getD (Int.toNat HN) []=[(.int .i64 X9)]:=Ca _ g51;obtain ⟨x54,g55,Jq⟩:=bK Jq;have f56:=B9 g55;have f57:(CT a1).getD (Int.toNat X9) []=[(.bool x54)]:=Ca _ g55;cases c58:x54
   . simp only[c58,Aj] at Jq;obtain ⟨x59,g60,Jq⟩:=bK Jq;obtain ⟨f61,f62q,f63,f64⟩:=Nc g60;have f62:0<=X9/\X9<24:=by omega
     have f65:(Int.toNat X9)<=23:=by omega
     cases c66:x59
     . simp only[c66,Aj] at Jq;obtain ⟨c67,Jq⟩:=gK Jq;(try simp only[go_sem,c49,f52,f53,f56,f57,c58,f61,f62,f63,f64,f65,c66]);refine ⟨by have:=Ad c67;(try simp only[Ar,Az,Au] at*);(repeat' refine And.intro ?_ ?_)<;>first | exact EB _ _ rfl | exact Jy _ | omega | (simp[LI];done),?_⟩;simp only[Aa,B4] at Jq;(try simp only[go_sem]);exact Aua ((v41++[X9]),(v42.set (Int.toNat X9) true),(IntKind.i64.wrap (HN+1))) _ Jq ((Wk.forget (by simp[ZF,ZE,Ec,GB,GD,Ft,GC,A5,Dv,At,c5,f32,Nat.min_eq_left f32,c58,c66])))
     simp only[c66,Ak] at Jq;simp only[Aa,B4] at Jq;(try simp only[go_sem,c49,f52,f53,f56,f57,c58,f61,f62,f63,f64,f65,c66]);exact Aua (v41,v42,(IntKind.i64.wrap (HN+1))) _ Jq ((Wk.forget (by simp[ZF,ZE,Ec,GB,GD,Ft,GC,A5,Dv,At,c5,f32,Nat.min_eq_left f32,c58,c66])))
   simp only[c58,Ak] at Jq;simp only[Aa,B4] at Jq;(try simp only[go_sem,c49,f52,f53,f56,f57,c58]);exact Aua (v41,v42,(IntKind.i64.wrap (HN+1))) _ Jq ((Wk.forget (by simp[ZF,ZE,Ec,GB,GD,Ft,GC,A5,Dv,At,c5,f32,Nat.min_eq_left f32,c58])))
 simp only[c5,Ak] at hr;cases hr;try simp only[go_sem,f3,f4,c5]
 all_goals ((try refine BY ?_);(try simp only[go_sem,f3,f4,c5]);try first | rfl | exact ⟨rfl,rfl⟩ | (simp;done))
def M8(a1:List Bool)(Yl:List Bool)(Vo:List Bool):Int->Option ((Int)⊕(Int⊕(Bool×Int)))
 | v28=>cond (decide (v28<((a1.length:Nat):Int))) (Option.bind (CE a1 v28) λ p0=>cond p0 (some (Sum.inl (IntKind.i64.wrap (v28+1)))) (Option.bind (Si 24 Yl v28) λ x40=>cond x40 (Option.bind (Si 24 Vo v28) λ x48=>cond x48 (some (Sum.inl (IntKind.i64.wrap (v28+1)))) (some (Sum.inr (.inr (((false,0):Bool×Int)))))) (some (Sum.inr (.inr (((false,0):Bool×Int))))))) (some (Sum.inr (.inl v28)))
def JL(a0:List (List Int))(a1:List Bool)(x1:List (List Int)):Int->Option ((Int)⊕(Int⊕(Bool×Int)))
 | v7=>cond (decide (v7<((a1.length:Nat):Int))) (Option.bind (CE a1 v7) λ O1=>cond O1 (some (Sum.inl (IntKind.i64.wrap (v7+1)))) (Option.bind (Ii a0 a1 v7) λ Yl=>Option.bind (Ii x1 a1 v7) λ Vo=>cond (decide (Yl.length=24)) (cond (decide (Vo.length=24)) (Option.bind (Cv (M8 a1 Yl Vo) 0) (λ | .inl v56=>some (Sum.inr (.inr (((true,0):Bool×Int)))) | .inr (r57)=>some (Sum.inr (.inr (r57))))) none) none)) (some (Sum.inr (.inl v7)))
def QI(a0:List (List Int))(a1:List Bool):Option (Bool×Int):=
 Option.bind (QH a0) λ (x1,x2)=>cond (decide (x2=0)) (cond (decide (((a1.length:Nat):Int)=((a0.length:Nat):Int))) (Option.bind (Cv (JL a0 a1 x1) 0) (λ | .inl v58=>some (false,0) | .inr (r59)=>some r59)) (some (false,19))) (some (false,x2))
theorem Ajj(a0:List (List Int))(a1:List Bool)(r:Bool×Int)(hr:QI a0 a1=some r):
   BZ prog 17 [.p (.sl (Cr a0)),.p (.sl (CT a1))] [] λ h d=>h=[]/\d= .Dg [.p (.bool r.1),.p (.int .i64 r.2)]:=by
 refine B1 func17 rfl An5 (by simp[Tryz.f17]) ?_;unfold QI at hr;obtain ⟨⟨x1,x2⟩,g3,hr⟩:=bE hr;try simp only[go_sem]
 refine Cq (Aji a0 _ g3) ?_;cases c4:decide (x2=0)
 . simp only[c4,Aj] at hr;cases hr;(try simp only[go_sem,c4]);all_goals ((try refine BY ?_);(try simp only[go_sem,c4]);try first | rfl | exact ⟨rfl,rfl⟩ | (simp;done))
 simp only[c4,Ak] at hr;cases c5:decide (((a1.length:Nat):Int)=((a0.length:Nat):Int))
 . simp only[c5,Aj] at hr;cases hr;(try simp only[go_sem,c4,c5]);all_goals ((try refine BY ?_);(try simp only[go_sem,c4,c5]);try first | rfl | exact ⟨rfl,rfl⟩ | (simp;done))
 simp only[c5,Ak] at hr;obtain ⟨e11,g12,hr⟩:=bE hr;try simp only[go_sem,c4,c5]
 refine CQ g12 (λ q:Int=>⟨[(0,.p (.sl (Cr a0))),(1,.p (.sl (CT a1))),(6,.p (.sl (Cr x1))),(27,.p (.sl (CT a1))),(28,.p (.int .i64 ((a1.length:Nat):Int))),(29,.p (.int .i64 q))],[],66⟩) ((Wk.forget (by simp[ZF,ZE,Ec,GB,GD,Ft,GC,A5,Dv,At]))) ?_;rintro v7 m10 GH ih9;rw[JL.eq_1] at GH;cases Sb:decide (v7<((a1.length:Nat):Int))
 . simp only[Sb,Aj] at GH;simp only[Aa,B2] at GH;cases GH;(try dsimp only at hr);cases hr;(try simp only[go_sem,Sb]);all_goals ((try refine BY ?_);(try simp only[go_sem,Sb]);try first | rfl | exact ⟨rfl,rfl⟩ | (simp;done))
 simp only[Sb,Ak] at GH;obtain ⟨O1,g15,GH⟩:=bK GH;have f16:=B9 g15;have f17:(CT a1).getD (Int.toNat v7) []=[(.bool O1)]:=Ca _ g15;cases JG:O1
 . simp only[JG,Aj] at GH;obtain ⟨Yl,g20,GH⟩:=bK GH;(try simp only[go_sem,Sb,f16,f17,JG]);refine Cq (Te a0 a1 v7 _ g20) ?_;obtain ⟨Vo,g22,GH⟩:=bK GH;(try simp only[go_sem]);refine Cq (Te x1 a1 v7 _ g22) ?_;obtain ⟨WG,GH⟩:=gK GH;have f24:=Ad WG;obtain ⟨c25,GH⟩:=gK GH;have f26:=Ad c25;obtain ⟨e32,g33,GH⟩:=bK GH;(try simp only[go_sem,f24,f26]);refine CQ g33 (λ q:Int=>⟨[(10,.ptr 10 0),(11,.ptr 11 0),(43,.p (.sl (CT a1))),(44,.p (.int .i64 ((a1.length:Nat):Int))),(45,.p (.int .i64 q))],[(10,.box (dT Yl)),(11,.box (dT Vo))],66⟩) ((Wk.forget (by simp[ZF,ZE,Ec,GB,GD,Ft,GC,A5,Dv,At,JG]))) ?_;rintro v28 m31 Fs Aqe;rw[M8.eq_1] at Fs;cases Rv:decide (v28<((a1.length:Nat):Int))
   . simp only[Rv,Aj] at Fs;simp only[Aa,B2] at Fs;cases Fs;(try dsimp only at GH);simp only[Aa,B2] at GH;cases GH;(try dsimp only at hr);cases hr;(try simp only[go_sem,Rv]);all_goals ((try refine BY ?_);(try simp only[go_sem,Rv]);try first | rfl | exact ⟨rfl,rfl⟩ | (simp;done))
   simp only[Rv,Ak] at Fs;obtain ⟨p0,g36,Fs⟩:=bK Fs;have f37:=B9 g36;have f38:(CT a1).getD (Int.toNat v28) []=[(.bool p0)]:=Ca _ g36;cases c39:p0
   . simp only[c39,Aj] at Fs;obtain ⟨x40,g41,Fs⟩:=bK Fs;obtain ⟨f42,f43q,f44,f45⟩:=Nc g41;have f43:0<=v28/\v28<24:=by omega
     have f46:(Int.toNat v28)<=23:=by omega
     cases c47:x40
     . simp only[c47,Aj] at Fs;simp only[Aa,B2] at Fs;cases Fs;(try dsimp only at GH);simp only[Aa,B2] at GH;cases GH;(try dsimp only at hr);cases hr;(try simp only[go_sem,Rv,f37,f38,c39,f42,f43,f44,f45,f46,c47]);all_goals ((try refine BY ?_);(try simp only[go_sem,Rv,f37,f38,c39,f42,f43,f44,f45,f46,c47]);try first | rfl | exact ⟨rfl,rfl⟩ | (simp;done))
     simp only[c47,Ak] at Fs;obtain ⟨x48,g49,Fs⟩:=bK Fs;obtain ⟨f50,f51q,f52,f53⟩:=Nc g49;have f51:0<=v28/\v28<24:=by omega
     have f54:(Int.toNat v28)<=23:=by omega
     cases c55:x48
     . simp only[c55,Aj] at Fs;simp only[Aa,B2] at Fs;cases Fs;(try dsimp only at GH);simp only[Aa,B2] at GH;cases GH;(try dsimp only at hr);cases hr;(try simp only[go_sem,Rv,f37,f38,c39,f42,f43,f44,f45,f46,c47,f50,f51,f52,f53,f54,c55]);all_goals ((try refine BY ?_);(try simp only[go_sem,Rv,f37,f38,c39,f42,f43,f44,f45,f46,c47,f50,f51,f52,f53,f54,c55]);try first | rfl | exact ⟨rfl,rfl⟩ | (simp;done))
     simp only[c55,Ak] at Fs;simp only[Aa,B4] at Fs;(try simp only[go_sem,Rv,f37,f38,c39,f42,f43,f44,f45,f46,c47,f50,f51,f52,f53,f54,c55]);exact Aqe (IntKind.i64.wrap (v28+1)) _ Fs ((Wk.forget (by simp[ZF,ZE,Ec,GB,GD,Ft,GC,A5,Dv,At,JG,c39,c47,c55])))
   simp only[c39,Ak] at Fs;simp only[Aa,B4] at Fs;(try simp only[go_sem,Rv,f37,f38,c39]);exact Aqe (IntKind.i64.wrap (v28+1)) _ Fs ((Wk.forget (by simp[ZF,ZE,Ec,GB,GD,Ft,GC,A5,Dv,At,JG,c39])))
 simp only[JG,Ak] at GH;simp only[Aa,B4] at GH;try simp only[go_sem,Sb,f16,f17,JG]
 exact ih9 (IntKind.i64.wrap (v7+1)) _ GH ((Wk.forget (by simp[ZF,ZE,Ec,GB,GD,Ft,GC,A5,Dv,At,JG])))
def nI(l:List Nat):List Int:=List.map (λ n:Nat=>(n:Int)) l
theorem Cz(l:List Nat):(nI l).length=l.length:=by simp[nI]
theorem DA(l:List Nat)(i:Nat):(nI l).getD i 0=((l.getD i 0:Nat):Int):=by
 by_cases h:i<l.length<;>simp[nI,List.getD,h]
theorem Atz(l:List Nat)(i x:Nat):(nI l).set i (x:Int)=nI (l.set i x):=by simp[nI,BD]
theorem Aq6(l:List Nat)(x:Nat):nI l++[(x:Int)]=nI (l++[x]):=by simp[nI]
theorem Aq5(l:List Nat)(k:Nat):(nI l).take k=nI (l.take k):=by simp[nI,Bz]
theorem Aq7(l:List Nat)(k:Nat):(nI l).drop k=nI (l.drop k):=by simp[nI,List.map_drop]
theorem Au1(l:List Nat)(x:Nat):(x:Int)∈nI l↔x∈l:=by
 simp only[nI,AP];constructor
 . rintro ⟨y,hy,e⟩;have:y=x:=by omega
   rwa[this] at hy
 . exact λ h=>⟨x,h,rfl⟩
attribute [go_sem] Cz Atz Aq6
theorem Adr(l:List Int)(i:Nat)(hi:i<l.length)(hl:l.length<=10000000)(hn:∀j,j<i->l.getD j 0≠l.getD i 0):O9 l (l.getD i 0)=some (i:Int):=by
 have Sp:=C6 (step:=Ki l (l.getD i 0)) i (λ k=>(k:Int)) (Sum.inr (i:Int))
   (λ k hk=>by
     have TR:k<l.length:=by omega
     rw[Ki.eq_1,Et TR,Ak,Ch l k 0 TR,Aa,Ah (λ e=>hn k hk e.symm),Aj,Cu (by omega)])
   (by rw[Ki.eq_1,Et hi,Ak,Ch l i 0 hi,Aa,Ag rfl,Ak])
 unfold O9;rw[show (0:Int)=((0:Nat):Int) from rfl] at*;rw[Sp];rfl
theorem Aph(l:List Int)(h1:1<=l.length)(hl:l.length<=10000000):∃m,W5 l=some m/\m∈l/\∀x∈l,m<=x:=by
 have key:∀d k,k+d=l.length->1<=k->∀m,m∈l.take k->(∀x∈l.take k,m<=x)->∃m' j,Cv (O8 l) (m,(k:Int))=some (m',j)/\m'∈l/\∀x∈l,m'<=x:=by
   intro d
   induction d with
   | zero=>
     intro k hk _ m hm hx;obtain rfl:k=l.length:=by omega
     rw[At] at hm hx;exact ⟨m,_,by rw[CV,O8.eq_1,E4,Aj];rfl,hm,hx⟩
   | succ d ih=>
     intro k hk Q5 m hm hx;have TR:k<l.length:=by omega
     rw[CV,O8.eq_1,Et TR,Ak,Ch l k 0 TR,Aa,Aa,B4,Cu (by omega)];refine ih (k+1) (by omega) (by omega) _ ?_ ?_
     . rw[CB l k 0 TR,Av];split
       . exact .inr (by simp)
       . exact .inl hm
     . intro x HZ;rw[CB l k 0 TR,Av] at HZ;rcases HZ with h2 | h2
       . have:=hx x h2;split<;>omega
       . rw[Aw.1 h2];split<;>omega
 unfold W5;rw[Ah (by omega),Aj,show CE l 0=some (l.getD 0 0) from Ch l 0 0 (by omega),Aa];obtain ⟨m',j,h2,h3,h4⟩:=key (l.length - 1) 1 (by omega) (by omega) (l.getD 0 0) (by
     rw[CB l 0 0 (by omega)];simp) (by rw[CB l 0 0 (by omega)];simp)
 exact ⟨m',by rw[show ((1:Int))=((1:Nat):Int) from rfl,h2,Aa],h3,h4⟩
def Sr.bx(g:List (List Int))(sh:List Bool)(s:Sr)(P:List Nat)(pk:Nat):List D:=[.p (.sl (Cr g)),.p (.sl (CT sh)),.ref 1000001 0 s.seen.length s.seen.length,.ref 1000002 0 s.low.length s.low.length,.ref 1000003 0 s.at_.length s.at_.length,
 .ref 1000004 0 pk P.length,.ref 1000005 0 s.held.length s.held.length,.p (.int .i64 (s.count:Nat)),.ref 1000006 0 s.names.length s.names.length]
def E2(l:List Int)(ws:List Nat)(x:Int):List Int:=ws.foldl (λ l w=>l.set w x) l
theorem HP(ws:List Nat)(l:List Int)(x:Int):(E2 l ws x).length=l.length:=by
 induction ws generalizing l with
 | nil=>rfl
 | cons w r ih=>simp only[E2,Bo] at ih ⊢;rw[ih];simp
attribute [go_sem] HP
theorem YL(l:List Int)(ws:List Nat)(w:Nat)(x:Int):E2 l (ws++[w]) x=(E2 l ws x).set w x:=by simp[E2,List.foldl_append]
theorem Ha(g:List (List Int))(sh:List Bool)(s:Sr)(P:List Nat)(pk i:Nat)(hi:i<s.held.length)(hl:s.held.length<=1000)(hn:∀j,j<i->s.held.getD j 0≠s.held.getD i 0)(hr:∀w∈s.held,w<s.names.length):
   BZ prog 155 [.ptr 1000000 0,.p (.int .i64 (s.held.getD i 0:Nat))]
     [(1000000,.box (s.bx g sh P pk)),(1000001,.arr 3 1 (BX (nI s.seen))),(1000002,.arr 3 1 (BX (nI s.low))),(1000003,.arr 3 1 (BX (nI s.at_))),(1000004,.arr 3 1 (BX (nI P))),(1000005,.arr 3 1 (BX (nI s.held))),(1000006,.arr 3 1 (BX s.names))]
     λ h r=>∃m,(m∈nI (s.held.drop i)/\∀x∈nI (s.held.drop i),m<=x)/\h=[(1000000,.box [.p (.sl (Cr g)),.p (.sl (CT sh)),.ref 1000001 0 s.seen.length s.seen.length,.ref 1000002 0 s.low.length s.low.length,.ref 1000003 0 s.at_.length s.at_.length,
       .ref 1000004 0 pk P.length,.ref 1000005 0 i s.held.length,.p (.int .i64 (s.count:Nat)),.ref 1000006 0 s.names.length s.names.length]),
       (1000001,.arr 3 1 (BX (nI s.seen))),(1000002,.arr 3 1 (BX (nI s.low))),(1000003,.arr 3 1 (BX (nI s.at_))),(1000004,.arr 3 1 (BX (nI P))),(1000005,.arr 3 1 (BX (nI s.held))),(1000006,.arr 3 1 (BX (E2 s.names (s.held.drop i) m)))]/\r= .Dg []:=by
 refine B1 func155 rfl Afy (by simp[Tryz.f155]) ?_;unfold Sr.bx;have e1:=Adr (nI s.held) i (by rw[Cz];exact hi) (by rw[Cz];omega) (λ j hj=>by rw[DA,DA];have:=hn j hj;omega);rw[DA] at e1;obtain ⟨m,e2,SC,Sl⟩:=Aph (nI (s.held.drop i)) (by rw[Cz];simp;omega) (by rw[Cz];simp;omega);simp only[go_sem];refine Rz rfl rfl (Aa0 _ _ _ e1) (by simp[KR,Sy,ev,get,Cz,BX,AL]) ?_;rintro h' r ⟨rfl,rfl⟩;refine ⟨rfl,rfl,?_⟩;simp only[go_sem];have f1:(0:Int)<=(i:Int)/\(i:Int)<=(s.held.length:Int):=by omega
 have f2:((s.held.length:Int) - (i:Int)).toNat=s.held.length - i:=by omega
 simp only[go_sem,f1,Ab,BP,f2];refine Rz rfl rfl (Aj4 _ _ e2) ?_ ?_
 . simp[KR,Sy,ev,get,Cz,BX,Aq7,AL];simp[nI,List.map_drop]
 rintro h' r ⟨rfl,rfl⟩;refine ⟨rfl,rfl,?_⟩;simp only[go_sem,f1,Ab,BP,f2];refine B5 (λ k=>⟨[(0,.ptr 1000000 0),(4,.p (.int .i64 (i:Nat))),(5,.p (.int .i64 m)),(26,.ref 1000005 i (s.held.length - i) s.held.length),(27,.p (.int .i64 ((s.held.length - i:Nat):Int))),(28,.p (.int .i64 (k:Nat)))],
     [(1000000,.box (s.bx g sh P pk)),(1000001,.arr 3 1 (BX (nI s.seen))),(1000002,.arr 3 1 (BX (nI s.low))),(1000003,.arr 3 1 (BX (nI s.at_))),(1000004,.arr 3 1 (BX (nI P))),(1000005,.arr 3 1 (BX (nI s.held))),
      (1000006,.arr 3 1 (BX (E2 s.names ((s.held.drop i).take k) m)))],49⟩) (λ k=>k<=s.held.length - i) (λ k=>s.held.length - i - k) 0 (AE _)
   ((Wk.forget (by simp[ZF,Sr.bx,E2]))) ?_
 rintro k n hk ih;unfold Sr.bx;cases c1:decide ((k:Int)<((s.held.length - i:Nat):Int))
 . have f3:((i:Int) - 0).toNat=i:=by omega
   obtain rfl:k=s.held.length - i:=by have:=Ae c1;omega
   simp only[go_sem,c1,f1,f3];refine C0 ?_;have f4:(s.held.drop i).take (s.held.length - i)=s.held.drop i:=AL (by simp);simp only[go_sem,c1,f1,f3,f4];exact ⟨m,⟨SC,Sl⟩,rfl⟩
 . have JF:k<s.held.length - i:=by simpa using Ad c1
   have f4:(0:Int)<=(k:Int)/\(k:Int)<((s.held.length - i:Nat):Int):=by omega
   have g1:=Cj (nI s.held) (i+k) (by rw[Cz];omega);rw[DA] at g1;have hw:=hr _ (CK s.held (i+k) 0 (by omega));have f5:(0:Int)<=((s.held.getD (i+k) 0:Nat):Int)/\((s.held.getD (i+k) 0:Nat):Int)<(s.names.length:Int):=by omega
   have f6:IntKind.i64.wrap ((k:Int)+1)=((k+1:Nat):Int):=Cu (by omega);have g2:=Cj (E2 s.names ((s.held.drop i).take k) m) (s.held.getD (i+k) 0) (by rw[HP];exact hw);simp only[go_sem,c1,f4,g1,g2,f5,Ab,f6];refine ih (k+1) _ (by omega) (by omega) ?_;have hd:(s.held.drop i).take (k+1)=(s.held.drop i).take k++[s.held.getD (i+k) 0]:=by
     rw[CB (s.held.drop i) k 0 (by simp;omega)];simp[List.getD]
   rw[hd,YL];exact (Wk.forget (by simp[ZF,Sr.bx,Db]))
structure FB where
 Yd:Nat
 s:Sr
 v:Nat
 p1:Nat
 p2:Nat
def FB.st(g:List (List Int))(sh:List Bool)(b:FB):St:=⟨[(0,.ptr 1000000 0),(1,.p (.int .i64 (b.v:Nat)))],[
 (1000000,.box [.p (.sl (Cr g)),.p (.sl (CT sh)),.ref 1000001 0 b.s.seen.length b.s.seen.length,.ref 1000002 0 b.s.low.length b.s.low.length,.ref 1000003 0 b.s.at_.length b.s.at_.length,.ref 500005 0 b.s.path.length b.s.path.length,.ref 500006 0 b.s.held.length b.s.held.length,.p (.int .i64 (b.s.count:Nat)),.ref 1000006 0 b.s.names.length b.s.names.length]),(1000001,.arr 3 1 (BX (nI b.s.seen))),(1000002,.arr 3 1 (BX (nI b.s.low))),(1000003,.arr 3 1 (BX (nI b.s.at_))),(1000004,.Fi (Fx 1 b.p1)),(1000005,.Fi (Fx 1 b.p2)),(1000006,.arr 3 1 (BX b.s.names))
 ,(500005,.arr 3 1 (BX (nI b.s.path))),(500006,.arr 3 1 (BX (nI b.s.held)))],210⟩
theorem Arc(P:List Nat)(k:Nat):(BX (nI P)).take k=BX (nI (P.take k)):=by rw[Li,Aq5]
theorem Ano(P:List Nat)(k:Nat)(h:k<=P.length):(BX (nI (P.take k))).take k=BX (nI (P.take k)):=AL (by rw[BW,Cz];simp;omega)
theorem Sv(g:List (List Int))(sh:List Bool)(p1 p2 Yd:Nat)(se lo ad P H:List Nat)(pk hk cn:Nat)(nm:List Int)(v:Nat)(hpk:pk<=P.length)(hhk:hk<=H.length):
   Wk ⟨[(0,.ptr 1000000 0),(1,.p (.int .i64 (v:Nat)))],[
     (1000000,.box [.p (.sl (Cr g)),.p (.sl (CT sh)),.ref 1000001 0 se.length se.length,.ref 1000002 0 lo.length lo.length,.ref 1000003 0 ad.length ad.length,.ref 500005 0 pk P.length,.ref 500006 0 hk H.length,.p (.int .i64 (cn:Nat)),.ref 1000006 0 nm.length nm.length]),(1000001,.arr 3 1 (BX (nI se))),(1000002,.arr 3 1 (BX (nI lo))),(1000003,.arr 3 1 (BX (nI ad))),(1000004,.Fi (Fx 1 p1)),(1000005,.Fi (Fx 1 p2)),(1000006,.arr 3 1 (BX nm))
     ,(500005,.arr 3 1 (BX (nI P))),(500006,.arr 3 1 (BX (nI H)))],210⟩ (FB.st g sh ⟨Yd,⟨se,lo,ad,P.take pk,H.take hk,cn,nm⟩,v,p1,p2⟩):=by
 have l1:(P.take pk).length=pk:=by simp;omega
 have l2:(H.take hk).length=hk:=by simp;omega
 refine (Wk.H8 (id:=1000000) (j:=5) (q:=500005) (k:=pk) (es:=BX (nI P)) 600005 rfl (by simp[Cz,BW]) rfl (by rw[BW,Cz];exact hpk) rfl).trans ?_;refine (Wk.forget (st1:=⟨[(0,.ptr 1000000 0),(1,.p (.int .i64 (v:Nat)))],[
     (1000000,.box [.p (.sl (Cr g)),.p (.sl (CT sh)),.ref 1000001 0 se.length se.length,.ref 1000002 0 lo.length lo.length,.ref 1000003 0 ad.length ad.length,.ref 600005 0 (P.take pk).length (P.take pk).length,.ref 500006 0 hk H.length,.p (.int .i64 (cn:Nat)),.ref 1000006 0 nm.length nm.length]),(1000001,.arr 3 1 (BX (nI se))),(1000002,.arr 3 1 (BX (nI lo))),(1000003,.arr 3 1 (BX (nI ad))),(1000004,.Fi (Fx 1 p1)),(1000005,.Fi (Fx 1 p2)),(1000006,.arr 3 1 (BX nm))
     ,(600005,.arr 3 1 (BX (nI (P.take pk)))),(500006,.arr 3 1 (BX (nI H)))],210⟩) (by simp[ZF,Arc,l1,l2])).trans ?_
 refine (Wk.H8 (id:=1000000) (j:=5) (q:=600005) (k:=pk) (es:=BX (nI (P.take pk))) 500005 rfl (by simp[Cz,BW,l1]) rfl (by rw[BW,Cz,l1];exact Ai _) rfl).trans ?_;refine (Wk.H8 (id:=1000000) (j:=6) (q:=500006) (k:=hk) (es:=BX (nI H)) 600006 rfl (by simp[Cz,BW]) rfl (by rw[BW,Cz];exact hhk) rfl).trans ?_;refine (Wk.forget (st1:=⟨[(0,.ptr 1000000 0),(1,.p (.int .i64 (v:Nat)))],[
     (1000000,.box [.p (.sl (Cr g)),.p (.sl (CT sh)),.ref 1000001 0 se.length se.length,.ref 1000002 0 lo.length lo.length,.ref 1000003 0 ad.length ad.length,.ref 500005 0 (P.take pk).length (P.take pk).length,.ref 600006 0 (H.take hk).length (H.take hk).length,.p (.int .i64 (cn:Nat)),.ref 1000006 0 nm.length nm.length]),(1000001,.arr 3 1 (BX (nI se))),(1000002,.arr 3 1 (BX (nI lo))),(1000003,.arr 3 1 (BX (nI ad))),(1000004,.Fi (Fx 1 p1)),(1000005,.Fi (Fx 1 p2)),(1000006,.arr 3 1 (BX nm))
     ,(500005,.arr 3 1 (BX (nI (P.take pk)))),(600006,.arr 3 1 (BX (nI (H.take hk))))],210⟩) (by simp[ZF,Arc,Ano P pk hpk,l1,l2])).trans ?_
 refine (Wk.H8 (id:=1000000) (j:=6) (q:=600006) (k:=hk) (es:=BX (nI (H.take hk))) 500006 rfl (by simp[Cz,BW,l2]) rfl (by rw[BW,Cz,l2];exact Ai _) rfl).trans ?_;exact (Wk.forget (by simp[ZF,FB.st,Arc,Ano P pk hpk,Ano H hk hhk,l1,l2]))
theorem Ahf(g:List (List Int))(sh:List Bool)(_p1 _p2 Yd:Nat)(se lo ad P H:List Nat)(pk hk cn:Nat)(nm:List Int)(v:Nat)(hpk:pk<=P.length)(hhk:hk<=H.length):
   Wk ⟨[(0,.ptr 1000000 0),(1,.p (.int .i64 (v:Nat)))],[
     (1000000,.box [.p (.sl (Cr g)),.p (.sl (CT sh)),.ref 1000001 0 se.length se.length,.ref 1000002 0 lo.length lo.length,.ref 1000003 0 ad.length ad.length,.ref 1000004 0 pk P.length,.ref 1000005 0 hk H.length,.p (.int .i64 (cn:Nat)),.ref 1000006 0 nm.length nm.length]),(1000001,.arr 3 1 (BX (nI se))),(1000002,.arr 3 1 (BX (nI lo))),(1000003,.arr 3 1 (BX (nI ad))),(1000004,.arr 3 1 (BX (nI P))),(1000005,.arr 3 1 (BX (nI H))),(1000006,.arr 3 1 (BX nm))
     ],210⟩ (FB.st g sh ⟨Yd,⟨se,lo,ad,P.take pk,H.take hk,cn,nm⟩,v,P.length+1,H.length+1⟩):=by
 have l1:(P.take pk).length=pk:=by simp;omega
 have l2:(H.take hk).length=hk:=by simp;omega
 refine (Wk.H8 (id:=1000000) (j:=5) (q:=1000004) (k:=pk) (es:=BX (nI P)) 500005 rfl (by simp[Cz,BW]) rfl (by rw[BW,Cz];exact hpk) rfl).trans ?_;refine (Wk.H8 (id:=1000000) (j:=6) (q:=1000005) (k:=hk) (es:=BX (nI H)) 500006 rfl (by simp[Cz,BW]) rfl (by rw[BW,Cz];exact hhk) rfl).trans ?_;exact (Wk.forget (by simp[ZF,FB.st,Arc,l1,l2,Cz,BW]))
structure FI(g:List (List Int))(sh:List Bool)(s0:Sr)(v0:Nat)(b:FB):Prop where
 tj:TJ g sh (if b.Yd=0 then λ w=>w=b.v else Pm) b.s
 cu:b.s.count+Lv g b.s=g.length
 mo:∀x,s0.sn x≠0->b.s.sn x≠0
 v0:b.s.sn v0≠0
 at0:b.Yd=0->b.v<g.length/\sh.getD b.v false=false/\b.s.sn b.v=0/\∀p∈b.s.path,IL g sh p b.v
 at1:b.Yd≠0->b.Yd=1/\∃ps,b.s.path=ps++[b.v]
 pl:b.s.path.length+Lv g b.s<=g.length
 hl:b.s.held.length+Lv g b.s<=g.length
theorem TJ.UZ{g:List (List Int)}{sh:List Bool}{s:Sr}(h:TJ g sh Pm s)(p:Nat->Prop):TJ g sh p s:=
 ⟨h.l1,h.l2,h.l3,h.l4,h.rng,h.j4,h.inj,h.Yc,h.at0,h.atl,h.Ng,h.hso,h.UF,h.pso,h.UH,h.nmc,h.fin,λ x hx k hk w hw ho=>⟨λ e=>((h.edg x hx k hk w hw ho).1 e).elim,(h.edg x hx k hk w hw ho).2⟩,h.low,h.rch,h.own,h.anc,h.nmx⟩
def Sr.inc(s:Sr)(v:Nat):Sr:={s with at_:=s.at_.set v (s.ad v+1)}
def Sr.lo1(s:Sr)(v L:Nat):Sr:={s with low:=s.low.set v L}
theorem Aaq{s:Sr}{v:Nat}(hv:v<s.at_.length)(x:Nat):(s.inc v).ad x=if x=v then s.ad v+1 else s.ad x:=E6 _ _ _ _ _ hv
theorem Au4{s:Sr}{v L:Nat}(hv:v<s.low.length)(x:Nat):(s.lo1 v L).lw x=if x=v then L else s.lw x:=E6 _ _ _ _ _ hv
section
variable {g:List (List Int)} {sh:List Bool} {s0 s:Sr} {v0 v w p1 p2:Nat}
theorem FI.Aex(h:FI g sh s0 v0 ⟨1,s,v,p1,p2⟩)(hk:s.ad v<(g.getD v []).length)(hw:(g.getD v []).getD (s.ad v) 0=(w:Int))(hq:sh.getD w false=false->s.sn w≠0/\w∉s.held)(q1 q2:Nat):
   FI g sh s0 v0 ⟨1,s.inc v,v,q1,q2⟩/\FM g (s.inc v)<FM g s:=by
 obtain ⟨tj,cu,mo,WT,_,at1,pl,hl⟩:=h;simp only at pl hl;obtain ⟨_,ps,hp⟩:=at1 (show (1:Nat)≠0 by decide)
 replace tj:TJ g sh Pm s:=tj
 replace hp:s.path=ps++[v]:=hp
 obtain ⟨hvp,Qh,Io,_⟩:=tj.last hp;have e3:=Aaq (s:=s) (v:=v) (by rw[tj.l3];exact Io);have h1:TJ g sh Pm (s.inc v):=tj.step (L:=s.lw v) hp hk hw rfl (λ x=>by show s.lw x=_;split<;>simp_all) rfl e3 (by simp[Sr.inc]) rfl rfl rfl rfl (Ai _) (tj.low v Qh).2
   λ ho=>⟨λ e=>absurd e (hq ho).1,λ hm=>absurd hm (hq ho).2⟩
 have h2:=QA (g:=g) (s:=s) (s':=s.inc v) Io hk e3;have h3:Lv g (s.inc v)=Lv g s:=Ic rfl;refine ⟨⟨h1,by show s.count+_=_;rw[h3];exact cu,mo,WT,λ h=>absurd h (show (1:Nat)≠0 by decide),λ _=>⟨rfl,ps,hp⟩,by rw[h3];exact pl,by rw[h3];exact hl⟩,?_⟩;unfold FM;rw[h3];show _+_+s.path.length<_;omega
theorem FI.Au9(h:FI g sh s0 v0 ⟨1,s,v,p1,p2⟩)(hk:s.ad v<(g.getD v []).length)(hw:(g.getD v []).getD (s.ad v) 0=(w:Int))(hwn:w<g.length)(ho:sh.getD w false=false)(hs:s.sn w=0)(q1 q2:Nat):
   FI g sh s0 v0 ⟨0,s.inc v,w,q1,q2⟩/\FM g (s.inc v)<FM g s:=by
 obtain ⟨tj,cu,mo,WT,_,at1,pl,hl⟩:=h;simp only at pl hl;obtain ⟨_,ps,hp⟩:=at1 (show (1:Nat)≠0 by decide)
 replace tj:TJ g sh Pm s:=tj
 replace hp:s.path=ps++[v]:=hp
 obtain ⟨hvp,Qh,Io,_⟩:=tj.last hp;have e3:=Aaq (s:=s) (v:=v) (by rw[tj.l3];exact Io);have hwh:w∉s.held:=λ hm=>((tj.Ng w).1 hm).1 hs;have h1:TJ g sh (λ x=>x=w) (s.inc v):=tj.step (L:=s.lw v) hp hk hw rfl (λ x=>by show s.lw x=_;split<;>simp_all) rfl e3 (by simp[Sr.inc]) rfl rfl rfl rfl (Ai _) (tj.low v Qh).2
   λ _=>⟨λ _=>rfl,λ hm=>absurd hm hwh⟩
 have h2:=QA (g:=g) (s:=s) (s':=s.inc v) Io hk e3;have h3:Lv g (s.inc v)=Lv g s:=Ic rfl;have he:Ed g sh v w:=⟨by rw[<-hw,getD_eq hk];exact AS hk,ho⟩;refine ⟨⟨h1,by show s.count+_=_;rw[h3];exact cu,mo,WT,λ _=>⟨hwn,ho,hs,λ p La=>?_⟩,λ h=>absurd rfl h,by rw[h3];exact pl,by rw[h3];exact hl⟩,?_⟩
 . exact (tj.rch p La v Qh ((tj.last hp).2.2.2.2.1 p La)).tail he
 . unfold FM;rw[h3];show _+_+s.path.length<_;omega
theorem FI.Au8(h:FI g sh s0 v0 ⟨1,s,v,p1,p2⟩)(hk:s.ad v<(g.getD v []).length)(hw:(g.getD v []).getD (s.ad v) 0=(w:Int))(ho:sh.getD w false=false)(hs:s.sn w≠0)(hn:s.nm w<0)(q1 q2:Nat):
   FI g sh s0 v0 ⟨1,(s.inc v).lo1 v (min (s.lw v) (s.sn w)),v,q1,q2⟩/\FM g ((s.inc v).lo1 v (min (s.lw v) (s.sn w)))<FM g s:=by
 obtain ⟨tj,cu,mo,WT,_,at1,pl,hl⟩:=h;simp only at pl hl;obtain ⟨_,ps,hp⟩:=at1 (show (1:Nat)≠0 by decide)
 replace tj:TJ g sh Pm s:=tj
 replace hp:s.path=ps++[v]:=hp
 obtain ⟨hvp,Qh,Io,_⟩:=tj.last hp;have e3:=Aaq (s:=s) (v:=v) (by rw[tj.l3];exact Io);have hwh:w∈s.held:=(tj.Ng w).2 ⟨hs,hn⟩;have he:Ed g sh v w:=⟨by rw[<-hw,getD_eq hk];exact AS hk,ho⟩;obtain ⟨_,u,Fq,LM,hu3⟩:=tj.low v Qh;have h1:TJ g sh Pm ((s.inc v).lo1 v (min (s.lw v) (s.sn w))):=tj.step (L:=min (s.lw v) (s.sn w)) hp hk hw rfl (λ x=>Au4 (s:=s.inc v) (by show v<s.low.length;rw[tj.l2];exact Io) x) (by simp[Sr.lo1,Sr.inc]) e3 (by simp[Sr.inc,Sr.lo1]) rfl rfl rfl rfl (Nat.min_le_left _ _)
   (by
     rcases Nat.le_total (s.lw v) (s.sn w) with h4 | h4
     . exact ⟨u,Fq,by rw[Nat.min_eq_left h4];exact LM,hu3⟩
     . exact ⟨w,hwh,by rw[Nat.min_eq_right h4],(IL.refl v).tail he⟩)
   λ _=>⟨λ e=>absurd e hs,λ _=>Nat.min_le_right _ _⟩
 have h2:=QA (g:=g) (s:=s) (s':=(s.inc v).lo1 v (min (s.lw v) (s.sn w))) Io hk e3;have h3:Lv g ((s.inc v).lo1 v (min (s.lw v) (s.sn w)))=Lv g s:=Ic rfl;refine ⟨⟨h1,by show s.count+_=_;rw[h3];exact cu,mo,WT,λ h=>absurd h (show (1:Nat)≠0 by decide),λ _=>⟨rfl,ps,hp⟩,by rw[h3];exact pl,by rw[h3];exact hl⟩,?_⟩;unfold FM;rw[h3];show _+_+s.path.length<_;omega
theorem z7(ws:List Nat)(m:Int):∀(l:List Int) (x:Nat) (d:Int),(∀w∈ws,w<l.length)->(E2 l ws m).getD x d=if x∈ws then m else l.getD x d:=by
 induction ws with
 | nil=>intro l x d _;simp[E2]
 | cons w r ih=>
   intro l x d h;have:=ih (l.set w m) x d (λ y hy=>by rw[A5];exact h y (by simp[hy]));simp only[E2,Bo] at this ⊢;rw[this,E6 _ _ _ _ _ (h w (by simp))];by_cases h1:x∈r
   . simp[h1]
   . by_cases h2:x=w
     . simp[h1,h2]
     . simp[h1,h2]
theorem Lf(tj:TJ g sh Pm s){i:Nat}(hi:i<s.held.length)(hv:s.held.getD i 0=v):(∀x,x∈s.held.take i↔x∈s.held/\s.sn x<s.sn v)/\(∀x,x∈s.held.drop i↔x∈s.held/\s.sn v<=s.sn x)/\∀j,j<i->s.held.getD j 0≠s.held.getD i 0:=by
 have hso:=List.pairwise_iff_getElem.1 tj.hso;have RX:s.held[i]=v:=by rw[<-hv,getD_eq hi]
 have lt:∀a b (ha:a<s.held.length) (hb:b<s.held.length),a<b->s.sn s.held[a] <s.sn s.held[b]:=λ a b ha hb XG=>hso a b ha hb XG;refine ⟨λ x=>⟨λ hx=>?_,λ ⟨h1,h2⟩=>?_⟩,λ x=>⟨λ hx=>?_,λ ⟨h1,h2⟩=>?_⟩,λ j hj e=>?_⟩
 . obtain ⟨k,hk,rfl⟩:=AA.1 hx;rw[List.getElem_take];have JF:k<i:=by simp at hk;omega
   exact ⟨AS _,by rw[<-RX];exact lt k i (by omega) hi JF⟩
 . obtain ⟨k,hk,rfl⟩:=AA.1 h1;rcases Nat.lt_or_ge k i with h3 | h3
   . exact AA.2 ⟨k,by simp;omega,by rw[List.getElem_take]⟩
   . rcases Nat.eq_or_lt_of_le h3 with h4 | h4
     . subst h4;rw[RX] at h2;omega
     . have:=lt i k hi hk h4;rw[RX] at this;omega
 . obtain ⟨k,hk,rfl⟩:=AA.1 hx;rw[List.getElem_drop];have JF:i+k<s.held.length:=by simp at hk;omega
   refine ⟨AS _,?_⟩;rcases BV k with h4 | h4
   . subst h4;simp only[Bj];rw[RX];exact Ai _
   . have:=lt i (i+k) hi JF (by omega);rw[RX] at this;omega
 . obtain ⟨k,hk,rfl⟩:=AA.1 h1;rcases Nat.lt_or_ge k i with h3 | h3
   . have:=lt k i hk hi h3;rw[RX] at this;omega
   . exact AA.2 ⟨k - i,by simp;omega,by rw[List.getElem_drop];congr 1;omega⟩
 . rw[getD_eq (show j<s.held.length by omega),getD_eq hi] at e;have:=lt j i (by omega) hi hj;rw[e] at this;omega
def Sr.Sf(s:Sr)(ps:List Nat)(t L:Nat):Sr:={s with path:=ps,low:=s.low.set t L}
def Sr.HT(s:Sr)(ps:List Nat)(i:Nat)(m:Int):Sr:={s with path:=ps,held:=s.held.take i,names:=E2 s.names (s.held.drop i) m}
theorem TJ.HT(tj:TJ g sh Pm s){ps:List Nat}(hp:s.path=ps++[v])(ha:s.ad v=(g.getD v []).length)(hl:s.lw v=s.sn v){i:Nat}(hi:i<s.held.length)(hv:s.held.getD i 0=v){m:Int}(hm:m∈nI (s.held.drop i))(PF:∀x∈nI (s.held.drop i),m<=x):
   TJ g sh Pm (s.HT ps i m):=by
 obtain ⟨a1,a2,_⟩:=Lf tj hi hv;obtain ⟨y0,hy0,rfl⟩:∃y0:Nat,y0∈s.held.drop i/\m=(y0:Int):=by
   simp only[nI,AP] at hm;obtain ⟨y,h1,h2⟩:=hm;exact ⟨y,h1,h2.symm⟩
 refine tj.complete (s':=s.HT ps i (y0:Int)) hp ha hl ((a2 y0).1 hy0) (λ z hz1 hz2=>?_) rfl rfl rfl rfl a1 (tj.hso.sublist (List.take_sublist _ _)) rfl (λ x=>?_) (by simp[Sr.HT,HP])
 . have:=PF (z:Int) ((Au1 _ z).2 ((a2 z).2 ⟨hz1,hz2⟩));omega
 . have h1:=z7 (s.held.drop i) (y0:Int) s.names x (-1) (λ w hw=>by rw[tj.l4];exact (tj.Yc w ((tj.Ng w).1 ((a2 w).1 hw).1).1).1)
   show (E2 s.names (s.held.drop i) (y0:Int)).getD x (-1)=_
   rw[h1];by_cases h2:x∈s.held.drop i
   . rw[if_pos h2,if_pos ((a2 x).1 h2)]
   . rw[if_neg h2,if_neg (λ h=>h2 ((a2 x).2 h))];rfl
theorem FI.back(h:FI g sh s0 v0 ⟨1,s,v,p1,p2⟩){ps:List Nat}{t:Nat}(hp:s.path=ps++[t]++[v])(ha:s.ad v=(g.getD v []).length)(hl:s.lw v≠s.sn v)(q1 q2:Nat):
   FI g sh s0 v0 ⟨1,s.Sf (ps++[t]) t (min (s.lw t) (s.lw v)),t,q1,q2⟩/\FM g (s.Sf (ps++[t]) t (min (s.lw t) (s.lw v)))<FM g s:=by
 obtain ⟨tj,cu,mo,WT,_,at1,pl,hhl⟩:=h;simp only at pl hhl
 replace tj:TJ g sh Pm s:=tj
 have htp:t∈s.path:=by rw[hp];simp
 have htn:=(tj.Yc t ((tj.Ng t).1 (tj.UF t htp)).1).1;have h1:TJ g sh Pm (s.Sf (ps++[t]) t (min (s.lw t) (s.lw v))):=tj.back hp ha hl rfl (λ x=>E6 _ _ _ _ _ (by rw[tj.l2];exact htn)) (by simp[Sr.Sf]) rfl rfl rfl rfl rfl;have h2:QD g (s.Sf (ps++[t]) t (min (s.lw t) (s.lw v)))=QD g s:=QB rfl;have h3:Lv g (s.Sf (ps++[t]) t (min (s.lw t) (s.lw v)))=Lv g s:=Ic rfl;have h4:s.path.length=(ps++[t]).length+1:=by rw[hp];simp
 refine ⟨⟨h1,by show s.count+_=_;rw[h3];exact cu,mo,WT,λ h=>absurd h (show (1:Nat)≠0 by decide),λ _=>⟨rfl,ps,rfl⟩,by rw[h3];show (ps++[t]).length+_<=_;omega,by rw[h3];exact hhl⟩,?_⟩;unfold FM;rw[h2,h3];show _+_+(ps++[t]).length<_;omega
theorem FI.comp(h:FI g sh s0 v0 ⟨1,s,v,p1,p2⟩){ps:List Nat}{t:Nat}(hp:s.path=ps++[t]++[v])(ha:s.ad v=(g.getD v []).length)(hl:s.lw v=s.sn v){i:Nat}(hi:i<s.held.length)(hv:s.held.getD i 0=v){m:Int}(hm:m∈nI (s.held.drop i))(PF:∀x∈nI (s.held.drop i),m<=x)(q1 q2:Nat):
   FI g sh s0 v0 ⟨1,s.HT (ps++[t]) i m,t,q1,q2⟩/\FM g (s.HT (ps++[t]) i m)<FM g s/\min (s.lw t) (s.lw v)=s.lw t:=by
 obtain ⟨tj,cu,mo,WT,_,at1,pl,hhl⟩:=h;simp only at pl hhl
 replace tj:TJ g sh Pm s:=tj
 have h1:=tj.HT hp ha hl hi hv hm PF;have htp:t∈s.path:=by rw[hp];simp
 have Ct:=(tj.last hp).2.2.2.2.2.1 t (by simp);have r5:=(tj.low t (tj.UF t htp)).1;have h2:QD g (s.HT (ps++[t]) i m)=QD g s:=QB rfl;have h3:Lv g (s.HT (ps++[t]) i m)=Lv g s:=Ic rfl;have h4:s.path.length=(ps++[t]).length+1:=by rw[hp];simp
 have h5:(s.held.take i).length<=s.held.length:=by simp;omega
 refine ⟨⟨h1,by show s.count+_=_;rw[h3];exact cu,mo,WT,λ h=>absurd h (show (1:Nat)≠0 by decide),λ _=>⟨rfl,ps,rfl⟩,by rw[h3];show (ps++[t]).length+_<=_;omega,by rw[h3];show (s.held.take i).length+_<=_;omega⟩,?_,by omega⟩;unfold FM;rw[h2,h3];show _+_+(ps++[t]).length<_;omega
theorem MF(hv:v<g.length)(hl:s.seen.length=g.length)(h0:s.sn v=0):FM g (s.enter v)<FM g s/\(s.enter v).count+Lv g (s.enter v)=s.count+Lv g s/\Lv g (s.enter v)+1=Lv g s:=by
 have h1:=Adg hv hl h0;have h2:QD g (s.enter v)=QD g s:=QB rfl;have h3:(s.enter v).path.length=s.path.length+1:=by simp[Sr.enter]
 have h4:(s.enter v).count=s.count+1:=rfl;refine ⟨?_,by omega,h1⟩;unfold FM;omega
theorem FI.enter(tj:TJ g sh (λ w=>w=v) s)(cu:s.count+Lv g s=g.length)(mo:∀x,s0.sn x≠0->s.sn x≠0)(Ov:v0=v∨s.sn v0≠0)(hv:v<g.length)(ho:sh.getD v false=false)(h0:s.sn v=0)(hp:∀p∈s.path,IL g sh p v)
   (pl:s.path.length+Lv g s<=g.length) (hhl:s.held.length+Lv g s<=g.length) (q1 q2:Nat):FI g sh s0 v0 ⟨1,s.enter v,v,q1,q2⟩:=by
 obtain ⟨_,h2,h3⟩:=MF hv tj.l1 h0;have Ej:∀w,(s.enter v).sn w=if w=v then s.count+1 else s.sn w:=λ w=>E6 _ _ _ _ _ (by rw[tj.l1];exact hv)
 refine ⟨tj.enter hv ho h0 hp,by show (s.enter v).count+Lv g (s.enter v)=g.length;omega,λ x hx=>?_,?_,λ h=>absurd h (show (1:Nat)≠0 by decide),λ _=>⟨rfl,s.path,rfl⟩,?_,?_⟩
 . show (s.enter v).sn x≠0
   rw[Ej];split
   . omega
   . exact mo x hx
 . show (s.enter v).sn v0≠0
   rw[Ej];split
   . omega
   . rcases Ov with h | h
     . contradiction
     . exact h
 . show (s.enter v).path.length+_<=_
   simp only[Sr.enter,Au,Ar,Az] at h3 ⊢;omega
 . show (s.enter v).held.length+_<=_
   simp only[Sr.enter,Au,Ar,Az] at h3 ⊢;omega
end
def Ayu(g:List (List Int))(sh:List Bool)(s0:Sr)(v0:Nat)(h:Hp):Prop:=∃(s:Sr) (P H:List Nat),TJ g sh Pm s/\s.path=[]/\s.held=[]/\s.count+Lv g s=g.length/\(∀x,s0.sn x≠0->s.sn x≠0)/\s.sn v0≠0/\
 (h=[(1000000,.box [.p (.sl (Cr g)),.p (.sl (CT sh)),.ref 1000001 0 g.length g.length,.ref 1000002 0 g.length g.length,.ref 1000003 0 g.length g.length,.ref 1000004 0 0 P.length,.ref 1000005 0 0 H.length,.p (.int .i64 (s.count:Nat)),.ref 1000006 0 g.length g.length]),(1000001,.arr 3 1 (BX (nI s.seen))),(1000002,.arr 3 1 (BX (nI s.low))),(1000003,.arr 3 1 (BX (nI s.at_))),
   (1000004,.arr 3 1 (BX (nI P))),(1000005,.arr 3 1 (BX (nI H))),(1000006,.arr 3 1 (BX s.names))]∨
  ∃p1 p2,h=[(1000000,.box [.p (.sl (Cr g)),.p (.sl (CT sh)),.ref 1000001 0 g.length g.length,.ref 1000002 0 g.length g.length,.ref 1000003 0 g.length g.length,.ref 0 0 0 P.length,.ref 1 0 0 H.length,.p (.int .i64 (s.count:Nat)),.ref 1000006 0 g.length g.length]),(1000001,.arr 3 1 (BX (nI s.seen))),(1000002,.arr 3 1 (BX (nI s.low))),(1000003,.arr 3 1 (BX (nI s.at_))),
   (1000004,.Fi (Fx 1 p1)),(1000005,.Fi (Fx 1 p2)),(1000006,.arr 3 1 (BX s.names)),(0,.arr 3 1 (BX (nI P))),(1,.arr 3 1 (BX (nI H)))])
theorem Ar2(g:List (List Int))(sh:List Bool)(s0:Sr)(v0:Nat)(hg:g.length<=24)(CS:∀r∈g,r.length<=10000000)(Jp:sh.length=g.length)(hT:TJ g sh Pm s0)(hpa:s0.path=[])(hhe:s0.held=[])(hcu:s0.count+Lv g s0=g.length)
   (hv:v0<g.length) (Yf:sh.getD v0 false=false) (Ov:s0.sn v0=0):
   BZ prog 118 [.ptr 1000000 0,.p (.int .i64 (v0:Nat))]
     [(1000000,.box (s0.bx g sh s0.path s0.path.length)),(1000001,.arr 3 1 (BX (nI s0.seen))),(1000002,.arr 3 1 (BX (nI s0.low))),(1000003,.arr 3 1 (BX (nI s0.at_))),(1000004,.arr 3 1 (BX (nI s0.path))),(1000005,.arr 3 1 (BX (nI s0.held))),(1000006,.arr 3 1 (BX s0.names))]
     λ h r=>Ayu g sh s0 v0 h/\r= .Dg []:=by
 refine B1 func118 rfl Agi (by simp[Tryz.f118]) ?_;unfold Sr.bx;simp only[go_sem];refine Se FB.Yd (FB.st g sh) (FI g sh s0 v0) (λ b=>FM g b.s) (FM g s0) ?_ ?_
 . intro n ih;obtain ⟨s,rfl⟩:∃s,s=s0:=⟨s0,rfl⟩;obtain ⟨v,rfl⟩:∃v,v=v0:=⟨v0,rfl⟩;have tj:=hT.UZ (λ w=>w=v);have cu:=hcu;have Io:=hv;have Af4:=Yf;have hvz:=Ov;have hpv:∀p∈s.path,IL g sh p v:=by rw[hpa];intro p hp;cases hp
   have pl:s.path.length+Lv g s<=g.length:=by rw[hpa];have:=Aim g s;simpa using this
   have hhl:s.held.length+Lv g s<=g.length:=by rw[hhe];have:=Aim g s;simpa using this
   have l1:=tj.l1;have l2:=tj.l2;have Ct:=(MF Io tj.l1 hvz).1;have hI1:FI g sh s v ⟨1,s.enter v,v,0,0⟩:=FI.enter tj cu (λ _ h=>h) (.inl rfl) Io Af4 hvz hpv pl hhl 0 0;have i1:(0:Int)<=(v:Int)/\(v:Int)<(g.length:Int):=by omega
   have hwc:IntKind.i64.wrap ((s.count:Int)+1)=((s.count+1:Nat):Int):=Cu (by omega);have gn0:(BX (nI s.seen)).getD v []=[.int .i64 (s.sn v:Nat)]:=by rw[Cj (nI s.seen) v (by rw[Cz];omega),DA];rfl
   have gl0:(BX (nI s.low)).getD v []=[.int .i64 (s.lw v:Nat)]:=by rw[Cj (nI s.low) v (by rw[Cz];omega),DA];rfl
   have i1s:(0:Int)<=(v:Int)/\(v:Int)<(s.seen.length:Int):=by omega
   have i1l:(0:Int)<=(v:Int)/\(v:Int)<(s.low.length:Int):=by omega
   have hpb:s.path.length+1<=24/\s.held.length+1<=24:=by have:=(MF (g:=g) Io l1 hvz).2.2;omega
   simp only[go_sem,hwc];refine CH mixed (p:=[(0,0),(1,0),(2,0),(3,0),(4,0),(5,0),(6,0),(7,0),(8,0),(9,0),(10,0),(11,0),(12,0),(13,0),(14,0),(15,0),(16,0),(17,0),(18,0),(19,4),(20,4),(21,4)]) (by kernel_rfl) (by simp[C8,get]) ?_;simp only[go_sem,hwc,Ab,i1s,i1l,gn0,gl0];refine Dm [(1000000,.box [.p (.sl (Cr g)),.p (.sl (CT sh)),.ref 1000001 0 s.seen.length s.seen.length,.ref 1000002 0 s.low.length s.low.length,.ref 1000003 0 s.at_.length s.at_.length,.ref 1000004 0 s.path.length s.path.length,.ref 1000005 0 s.held.length s.held.length,.p (.int .i64 ((s.count+1:Nat):Int)),.ref 1000006 0 s.names.length s.names.length])] mixed (p:=[(0,0),(1,0),(2,0),(3,0),(4,0),(5,0),(6,0),(9,0),(10,0),(11,0),(12,0),(13,0),(7,1),(14,1),(8,2),(15,2),(16,0),(17,0),(18,4),(19,4),(20,4),(21,4)]) (by kernel_rfl) (by simp[C8,get]) ?_;simp only[go_sem];refine ⟨⟨EB _ _ rfl,by omega,by omega⟩,⟨EB _ _ rfl,by omega,by omega⟩,?_⟩;obtain ⟨s1,LB⟩:∃s1,s1=s.enter v:=⟨_,rfl⟩;have q1:s.seen.set v (s.count+1)=s1.seen:=by rw[LB];rfl
   have q2:s.low.set v (s.count+1)=s1.low:=by rw[LB];rfl
   have q3:s.at_=s1.at_:=by rw[LB];rfl
   have q4:s.path++[v]=s1.path:=by rw[LB];rfl
   have q5:s.held++[v]=s1.held:=by rw[LB];rfl
   have q6:s.count+1=s1.count:=by rw[LB];rfl
   have q7:s.names=s1.names:=by rw[LB];rfl
   have q8:s.seen.length=s1.seen.length:=by rw[LB];simp[Sr.enter]
   have q9:s.low.length=s1.low.length:=by rw[LB];simp[Sr.enter]
   have q10:s.path.length+1=s1.path.length:=by rw[LB];simp[Sr.enter]
   have q11:s.held.length+1=s1.held.length:=by rw[LB];simp[Sr.enter]
   simp only[q1,q2];simp only[q3,q4,q5,q6,q7,q8,q9,q10,q11];rw[<-LB] at hI1 Ct;have V9:=hI1;obtain ⟨tj,cu,mo,WT,_,at1,pl,hhl⟩:=hI1;simp only at cu mo WT pl hhl
   replace tj:TJ g sh Pm s1:=tj
   obtain ⟨_,ps,hp⟩:=at1 (show (1:Nat)≠0 by decide)
   replace hp:s1.path=ps++[v]:=hp
   obtain ⟨hvp,Qh,Io,Af4,TQ,hps,Aqm⟩:=tj.last hp;have l1:=tj.l1;have l2:=tj.l2;have l3:=tj.l3;have l4:=tj.l4;have i1:(0:Int)<=(v:Int)/\(v:Int)<(g.length:Int):=by omega
   have ga:(BX (nI s1.at_)).getD v []=[.int .i64 (s1.ad v:Nat)]:=by rw[Cj (nI s1.at_) v (by rw[Cz];omega),DA];rfl
   have gg:=GP g v Io;refine CH mixed (p:=[(0,0),(1,0),(2,0),(3,0),(4,0),(5,0),(6,0),(7,0),(8,0),(9,0),(10,0),(11,0),(12,0),(13,0),(14,0),(15,0)]) (by kernel_rfl) (by simp[C8,get]) ?_;simp only[go_sem,Ab,l1,l2,l3,l4,i1,ga,gg];cases c1:decide ((s1.ad v:Int)<((g.getD v []).length:Int))
   . simp only[go_sem,c1];refine CH mixed (p:=[(0,0),(1,0),(2,0),(3,0),(4,0),(5,0),(6,0),(7,0),(8,0),(9,0),(10,0),(11,0),(12,0),(13,0),(14,3)]) (by kernel_rfl) (by simp[C8,get]) ?_;have hpl:s1.path.length=ps.length+1:=by rw[hp];simp
     have RW:IntKind.i64.wrap ((s1.path.length:Int) - 1)=((ps.length:Nat):Int):=by rw[hpl,B3 (by omega) (by omega)];omega
     have U8:(0:Int)<=((ps.length:Nat):Int)/\((ps.length:Nat):Int)<=(s1.path.length:Int):=by omega
     have hw3:(((ps.length:Nat):Int) - 0).toNat=ps.length:=by omega
     have gl:(BX (nI s1.low)).getD v []=[.int .i64 (s1.lw v:Nat)]:=by rw[Cj (nI s1.low) v (by rw[Cz];omega),DA];rfl
     have gnv:(BX (nI s1.seen)).getD v []=[.int .i64 (s1.sn v:Nat)]:=by rw[Cj (nI s1.seen) v (by rw[Cz];omega),DA];rfl
     simp only[go_sem,Ab,l1,l2,l3,l4,RW,U8,hw3];refine CH mixed (p:=[(0,0),(1,0),(2,0),(3,0),(4,0),(5,0),(6,0),(7,0),(8,0),(9,0),(10,0),(11,0),(12,0),(13,0),(14,0)]) (by kernel_rfl) (by simp[C8,get]) ?_;simp only[go_sem,Ab,l1,l2,l3,l4,i1,gl,gnv];have Ke:s1.ad v=(g.getD v []).length:=by have:=Ae c1;have:=tj.atl v;omega
     rcases List.eq_nil_or_concat ps with rfl | ⟨G1,t,Akq⟩
     . have hlr:=tj.root (v:=v) (by simpa using hp);have c5:decide ((s1.lw v:Int)=(s1.sn v:Int))=true:=Ag (by omega);obtain ⟨i,hi,PG⟩:=AA.1 Qh;rw[<-getD_eq (x:=0) hi] at PG;have hc:=Ha g sh s1 s1.path 0 i hi (by omega) (Lf tj hi PG).2.2 (λ w hw=>by rw[l4];exact (tj.Yc w ((tj.Ng w).1 hw).1).1);simp only[Sr.bx,l1,l2,l3,l4,PG] at hc;simp only[go_sem,c5];refine DF hc ?_;rintro h' r ⟨m,⟨SC,Sl⟩,rfl,rfl⟩;have hT':=tj.HT (ps:=[]) hp Ke hlr hi PG SC Sl;have Dx:i=0:=by
         rcases BV i with h | h
         . exact h
         . obtain ⟨p,h3,_⟩:=hT'.anc (s1.held.getD 0 0) (by show _∈s1.held.take i;rw[getD_eq (show 0<s1.held.length by omega)];exact AA.2 ⟨0,by simp;omega,by rw[List.getElem_take]⟩);cases h3
       subst Dx;simp only[go_sem];refine C0 ?_;simp only[go_sem];exact ⟨s1.HT [] 0 m,s1.path,s1.held,hT',rfl,by simp[Sr.HT],by show s1.count+_=_;rw[Ic (s':=s1.HT [] 0 m) (s:=s1) rfl];exact cu,mo,WT,.inl rfl⟩
     . obtain rfl:ps=G1++[t]:=by rw[Akq,List.concat_eq_append]
       have htp:t∈s1.path:=by rw[hp];simp
       have htn:=(tj.Yc t ((tj.Ng t).1 (tj.UF t htp)).1).1;have c6:decide ((0:Int)<(((G1++[t]).length:Nat):Int))=true:=Ag (by simp);have hw4:IntKind.i64.wrap ((((G1++[t]).length:Nat):Int) - 1)=((G1.length:Nat):Int):=by rw[B3 (by omega) (by omega)];simp
       have i5:(0:Int)<=((G1.length:Nat):Int)/\((G1.length:Nat):Int)<(((G1++[t]).length:Nat):Int):=by simp;omega
       have gp:(BX (nI s1.path)).getD G1.length []=[.int .i64 (t:Nat)]:=by
         rw[Cj (nI s1.path) G1.length (by rw[Cz,hp];simp),DA,hp];simp[List.getD]
       have i6:(0:Int)<=(t:Int)/\(t:Int)<(g.length:Int):=by omega
       have gt:(BX (nI s1.low)).getD t []=[.int .i64 (s1.lw t:Nat)]:=by rw[Cj (nI s1.low) t (by rw[Cz];omega),DA];rfl
       have TP:(if (s1.lw v:Int)<(s1.lw t:Int) then (s1.lw v:Int) else (s1.lw t:Int))=((min (s1.lw t) (s1.lw v):Nat):Int):=by split<;>omega
       have hcp:s1.path.take (G1++[t]).length=G1++[t]:=by rw[hp,List.take_left' rfl]
       cases c5:decide ((s1.lw v:Int)=(s1.sn v:Int))
       . have Dl:s1.lw v≠s1.sn v:=by have:=Ae c5;omega
         simp only[go_sem,c5];simp only[go_sem,c6];refine CH mixed (p:=[(0,0),(1,0),(2,0),(3,0),(4,0),(5,0),(6,0),(7,0),(8,0),(9,0),(10,0),(11,0),(12,0),(13,0),(14,0)]) (by kernel_rfl) (by simp[C8,get]) ?_;simp only[go_sem,Ab,hw4,i5,gp];refine CH mixed (p:=[(0,0),(1,0),(2,0),(3,0),(4,0),(5,0),(6,0),(7,0),(8,0),(9,0),(10,0),(11,0),(12,0),(13,0),(14,0),(15,0),(16,0),(17,0),(18,0),(19,0),(20,0),(21,3)]) (by kernel_rfl) (by simp[C8,get]) ?_;simp only[go_sem,Ab,l1,l2,l3,l4,i6,i1,gt,gl,TP];obtain ⟨k1,k2⟩:=FI.back V9 hp Ke Dl (s1.path.length+1) (s1.held.length+1);refine ih ⟨1,s1.Sf (G1++[t]) t (min (s1.lw t) (s1.lw v)),t,(s1.path.length+1),(s1.held.length+1)⟩ _ k1 (Nat.lt_trans k2 Ct) ?_;have e:(⟨s1.seen,s1.low.set t (min (s1.lw t) (s1.lw v)),s1.at_,s1.path.take (G1++[t]).length,s1.held.take s1.held.length,s1.count,s1.names⟩:Sr)=s1.Sf (G1++[t]) t (min (s1.lw t) (s1.lw v)):=by rw[hcp,At];rfl
         rw[<-e];refine Wk.trans ?_ (Ahf g sh 0 0 1 s1.seen (s1.low.set t (min (s1.lw t) (s1.lw v))) s1.at_ s1.path s1.held (G1++[t]).length s1.held.length s1.count s1.names t (by omega) (Ai _));exact (Wk.forget (by simp[ZF,Cz,Db,l1,l2,l3,l4]))
       . have hlr:s1.lw v=s1.sn v:=by have:=Ad c5;omega
         obtain ⟨i,hi,PG⟩:=AA.1 Qh;rw[<-getD_eq (x:=0) hi] at PG;have hc:=Ha g sh s1 s1.path (G1++[t]).length i hi (by omega) (Lf tj hi PG).2.2 (λ w hw=>by rw[l4];exact (tj.Yc w ((tj.Ng w).1 hw).1).1);simp only[Sr.bx,l1,l2,l3,l4,PG] at hc;simp only[go_sem,c5];refine DF hc ?_;rintro h' r ⟨m,⟨SC,Sl⟩,rfl,rfl⟩;obtain ⟨k1,k2,k3⟩:=FI.comp V9 hp Ke hlr hi PG SC Sl (s1.path.length+1) (s1.held.length+1);rw[k3] at TP;have hls:s1.low.set t (s1.lw t)=s1.low:=by
           apply List.ext_getElem (by simp);intro j h1 h2;rw[List.getElem_set];split
           . rename_i e;subst e;exact getD_eq h2
           . rfl
         simp only[go_sem];simp only[go_sem,c6];refine CH mixed (p:=[(0,0),(1,0),(2,0),(3,0),(4,0),(5,0),(6,0),(7,0),(8,0),(9,0),(10,0),(11,0),(12,0),(13,0),(14,0)]) (by kernel_rfl) (by simp[C8,get]) ?_;simp only[go_sem,Ab,hw4,i5,gp];refine CH mixed (p:=[(0,0),(1,0),(2,0),(3,0),(4,0),(5,0),(6,0),(7,0),(8,0),(9,0),(10,0),(11,0),(12,0),(13,0),(14,0),(15,0),(16,0),(17,0),(18,0),(19,0),(20,0),(21,3)]) (by kernel_rfl) (by simp[C8,get]) ?_;simp only[go_sem,Ab,l1,l2,l3,l4,i6,i1,gt,gl,TP,hls];refine ih ⟨1,s1.HT (G1++[t]) i m,t,(s1.path.length+1),(s1.held.length+1)⟩ _ k1 (Nat.lt_trans k2 Ct) ?_;have e:(⟨s1.seen,s1.low,s1.at_,s1.path.take (G1++[t]).length,s1.held.take i,s1.count,E2 s1.names (s1.held.drop i) m⟩:Sr)=s1.HT (G1++[t]) i m:=by rw[hcp];rfl
         rw[<-e];refine Wk.trans ?_ (Ahf g sh 0 0 1 s1.seen s1.low s1.at_ s1.path s1.held (G1++[t]).length i s1.count (E2 s1.names (s1.held.drop i) m) t (by omega) (by omega));exact (Wk.forget (by simp[ZF,Cz,Db,l1,l2,l3,l4,HP,hls]))
   . have hk:s1.ad v<(g.getD v []).length:=by have:=Ad c1;omega
     obtain ⟨w,hw,hwn⟩:=tj.rng v _ hk;have gw:(BX (g.getD v [])).getD (s1.ad v) []=[.int .i64 (w:Nat)]:=by rw[Cj _ _ hk,hw]
     have i2:(0:Int)<=(s1.ad v:Int)/\(s1.ad v:Int)<((g.getD v []).length:Int):=by omega
     have i3:(0:Int)<=(w:Int)/\(w:Int)<(g.length:Int):=by omega
     have Xx:(g.getD v []).length<=10000000:=CS _ (by rw[Vg Io];exact AS Io);have hwr:IntKind.i64.wrap ((s1.ad v:Int)+1)=((s1.ad v+1:Nat):Int):=Cu (by omega);have gs:(CT sh).getD w []=[.bool (sh.getD w false)]:=GO sh w (by omega);have gn:(BX (nI s1.seen)).getD w []=[.int .i64 (s1.sn w:Nat)]:=by rw[Cj (nI s1.seen) w (by rw[Cz];omega),DA];rfl
     have gnm:(BX s1.names).getD w []=[.int .i64 (s1.nm w)]:=by rw[Cj s1.names w (by omega)];simp[Sr.nm,List.getD,show w<s1.names.length by omega]
     simp only[go_sem,c1];refine CH mixed (p:=[(0,0),(1,0),(2,0),(3,0),(4,0),(5,0),(6,0),(7,0),(8,0),(9,0),(10,0),(11,0),(12,0),(13,0),(14,0),(15,0),(16,0)]) (by kernel_rfl) (by simp[C8,get]) ?_;simp only[go_sem,Ab,l1,l2,l3,l4,i1,ga,gg,i2,gw,i3,hwr,gs,Jp];cases c2:sh.getD w false;rotate_left
     . simp only[go_sem,c2];obtain ⟨k1,k2⟩:=FI.Aex V9 hk hw (λ h=>by rw[h] at c2;cases c2) (s1.path.length+1) (s1.held.length+1);refine ih ⟨1,s1.inc v,v,(s1.path.length+1),(s1.held.length+1)⟩ _ k1 (Nat.lt_trans k2 Ct) ?_;rw[show s1.inc v=(⟨s1.seen,s1.low,s1.at_.set v (s1.ad v+1),s1.path.take s1.path.length,s1.held.take s1.held.length,s1.count,s1.names⟩:Sr) by rw[At,At];rfl];refine Wk.trans ?_ (Ahf g sh 0 0 1 s1.seen s1.low (s1.at_.set v (s1.ad v+1)) s1.path s1.held s1.path.length s1.held.length s1.count s1.names v (Ai _) (Ai _));exact (Wk.forget (by simp[ZF,Cz,Db,l1,l2,l3,l4]))
     . simp only[go_sem,c2];simp only[go_sem,c2,Ab,l1,i3,gn];cases c3:decide ((s1.sn w:Int)=0);rotate_left
       . simp only[go_sem,c3];obtain ⟨k1,k2⟩:=FI.Au9 V9 hk hw hwn c2 (by have:=Ad c3;omega) (s1.path.length+1) (s1.held.length+1);refine ih ⟨0,s1.inc v,w,(s1.path.length+1),(s1.held.length+1)⟩ _ k1 (Nat.lt_trans k2 Ct) ?_;rw[show s1.inc v=(⟨s1.seen,s1.low,s1.at_.set v (s1.ad v+1),s1.path.take s1.path.length,s1.held.take s1.held.length,s1.count,s1.names⟩:Sr) by rw[At,At];rfl];refine Wk.trans ?_ (Ahf g sh 0 0 0 s1.seen s1.low (s1.at_.set v (s1.ad v+1)) s1.path s1.held s1.path.length s1.held.length s1.count s1.names w (Ai _) (Ai _));exact (Wk.forget (by simp[ZF,Cz,Db,l1,l2,l3,l4]))
       have h3:s1.sn w≠0:=by have:=Ae c3;omega
       simp only[go_sem,c3];simp only[go_sem,c3,Ab,l4,i3,gnm];cases c4:decide (s1.nm w<0)
       . simp only[go_sem,c4];obtain ⟨k1,k2⟩:=FI.Aex V9 hk hw (λ _=>⟨h3,λ hm=>by have:=((tj.Ng w).1 hm).2;have:=Ae c4;omega⟩) (s1.path.length+1) (s1.held.length+1);refine ih ⟨1,s1.inc v,v,(s1.path.length+1),(s1.held.length+1)⟩ _ k1 (Nat.lt_trans k2 Ct) ?_;rw[show s1.inc v=(⟨s1.seen,s1.low,s1.at_.set v (s1.ad v+1),s1.path.take s1.path.length,s1.held.take s1.held.length,s1.count,s1.names⟩:Sr) by rw[At,At];rfl];refine Wk.trans ?_ (Ahf g sh 0 0 1 s1.seen s1.low (s1.at_.set v (s1.ad v+1)) s1.path s1.held s1.path.length s1.held.length s1.count s1.names v (Ai _) (Ai _));exact (Wk.forget (by simp[ZF,Cz,Db,l1,l2,l3,l4]))
       . have h4:=Ad c4;have gl:(BX (nI s1.low)).getD v []=[.int .i64 (s1.lw v:Nat)]:=by rw[Cj (nI s1.low) v (by rw[Cz];omega),DA];rfl
         simp only[go_sem,c4];refine CH mixed (p:=[(0,0),(1,0),(2,0),(3,0),(4,0),(5,0),(6,0),(7,0),(8,0),(9,0),(10,0),(11,0),(12,0),(13,0),(14,0),(15,0),(16,0),(17,0),(18,0),(19,0),(20,0),(21,3)]) (by kernel_rfl) (by simp[C8,get]) ?_;have hmn:(if (s1.sn w:Int)<(s1.lw v:Int) then (s1.sn w:Int) else (s1.lw v:Int))=((min (s1.lw v) (s1.sn w):Nat):Int):=by split<;>omega
         simp only[go_sem,Ab,l1,l2,l3,l4,i1,i3,gl,gn,hmn];obtain ⟨k1,k2⟩:=FI.Au8 V9 hk hw c2 h3 h4 (s1.path.length+1) (s1.held.length+1);refine ih ⟨1,(s1.inc v).lo1 v (min (s1.lw v) (s1.sn w)),v,(s1.path.length+1),(s1.held.length+1)⟩ _ k1 (Nat.lt_trans k2 Ct) ?_;rw[show (s1.inc v).lo1 v (min (s1.lw v) (s1.sn w))=(⟨s1.seen,s1.low.set v (min (s1.lw v) (s1.sn w)),s1.at_.set v (s1.ad v+1),s1.path.take s1.path.length,s1.held.take s1.held.length,s1.count,s1.names⟩:Sr) by rw[At,At];rfl];refine Wk.trans ?_ (Ahf g sh 0 0 1 s1.seen (s1.low.set v (min (s1.lw v) (s1.sn w))) (s1.at_.set v (s1.ad v+1)) s1.path s1.held s1.path.length s1.held.length s1.count s1.names v (Ai _) (Ai _));exact (Wk.forget (by simp[ZF,Cz,Db,l1,l2,l3,l4]))
 . rintro ⟨Yd,s,v,p1,p2⟩ n hI ih;have V9:=hI;obtain ⟨tj,cu,mo,WT,at0,at1,pl,hhl⟩:=hI;simp only at tj cu mo WT at0 at1 pl hhl;by_cases hl:Yd=0
   . subst hl;obtain ⟨Io,Af4,hvz,hpv⟩:=at0 rfl
     replace tj:TJ g sh (λ w=>w=v) s:=tj
     have l1:=tj.l1;have l2:=tj.l2;have Ct:=(MF Io tj.l1 hvz).1;have hI1:FI g sh s0 v0 ⟨1,s.enter v,v,p1,p2⟩:=FI.enter tj cu mo (.inr WT) Io Af4 hvz hpv pl hhl p1 p2;refine ⟨_,rfl,?_⟩;unfold FB.st;have i1:(0:Int)<=(v:Int)/\(v:Int)<(g.length:Int):=by omega
     have hwc:IntKind.i64.wrap ((s.count:Int)+1)=((s.count+1:Nat):Int):=Cu (by omega);have gn0:(BX (nI s.seen)).getD v []=[.int .i64 (s.sn v:Nat)]:=by rw[Cj (nI s.seen) v (by rw[Cz];omega),DA];rfl
     have gl0:(BX (nI s.low)).getD v []=[.int .i64 (s.lw v:Nat)]:=by rw[Cj (nI s.low) v (by rw[Cz];omega),DA];rfl
     have i1s:(0:Int)<=(v:Int)/\(v:Int)<(s.seen.length:Int):=by omega
     have i1l:(0:Int)<=(v:Int)/\(v:Int)<(s.low.length:Int):=by omega
     have hpb:s.path.length+1<=24/\s.held.length+1<=24:=by have:=(MF (g:=g) Io l1 hvz).2.2;omega
     simp only[go_sem,hwc];refine CH mixed (p:=[(0,0),(1,0),(2,0),(3,0),(4,0),(5,0),(6,0),(7,0),(8,0),(9,0),(10,0),(11,0),(12,0),(13,0),(14,0),(15,0),(16,0),(17,0),(18,0),(19,4),(20,4),(21,4)]) (by kernel_rfl) (by simp[C8,get]) ?_;simp only[go_sem,hwc,Ab,i1s,i1l,gn0,gl0];refine Dm [(1000000,.box [.p (.sl (Cr g)),.p (.sl (CT sh)),.ref 1000001 0 s.seen.length s.seen.length,.ref 1000002 0 s.low.length s.low.length,.ref 1000003 0 s.at_.length s.at_.length,.ref 500005 0 s.path.length s.path.length,.ref 500006 0 s.held.length s.held.length,.p (.int .i64 ((s.count+1:Nat):Int)),.ref 1000006 0 s.names.length s.names.length])] mixed (p:=[(0,0),(1,0),(2,0),(3,0),(4,0),(5,0),(6,0),(9,0),(10,0),(11,0),(12,0),(13,0),(7,1),(14,1),(8,2),(15,2),(16,0),(17,0),(18,4),(19,4),(20,4),(21,4)]) (by kernel_rfl) (by simp[C8,get]) ?_;simp only[go_sem];refine ⟨⟨EB _ _ rfl,by omega,by omega⟩,⟨EB _ _ rfl,by omega,by omega⟩,?_⟩;obtain ⟨s1,LB⟩:∃s1,s1=s.enter v:=⟨_,rfl⟩;have q1:s.seen.set v (s.count+1)=s1.seen:=by rw[LB];rfl
     have q2:s.low.set v (s.count+1)=s1.low:=by rw[LB];rfl
     have q3:s.at_=s1.at_:=by rw[LB];rfl
     have q4:s.path++[v]=s1.path:=by rw[LB];rfl
     have q5:s.held++[v]=s1.held:=by rw[LB];rfl
     have q6:s.count+1=s1.count:=by rw[LB];rfl
     have q7:s.names=s1.names:=by rw[LB];rfl
     have q8:s.seen.length=s1.seen.length:=by rw[LB];simp[Sr.enter]
     have q9:s.low.length=s1.low.length:=by rw[LB];simp[Sr.enter]
     have q10:s.path.length+1=s1.path.length:=by rw[LB];simp[Sr.enter]
     have q11:s.held.length+1=s1.held.length:=by rw[LB];simp[Sr.enter]
     simp only[q1,q2];simp only[q3,q4,q5,q6,q7,q8,q9,q10,q11];rw[<-LB] at hI1 Ct;have V9:=hI1;obtain ⟨tj,cu,mo,WT,_,at1,pl,hhl⟩:=hI1;simp only at cu mo WT pl hhl
     replace tj:TJ g sh Pm s1:=tj
     obtain ⟨_,ps,hp⟩:=at1 (show (1:Nat)≠0 by decide)
     replace hp:s1.path=ps++[v]:=hp
     obtain ⟨hvp,Qh,Io,Af4,TQ,hps,Aqm⟩:=tj.last hp;have l1:=tj.l1;have l2:=tj.l2;have l3:=tj.l3;have l4:=tj.l4;have i1:(0:Int)<=(v:Int)/\(v:Int)<(g.length:Int):=by omega
     have ga:(BX (nI s1.at_)).getD v []=[.int .i64 (s1.ad v:Nat)]:=by rw[Cj (nI s1.at_) v (by rw[Cz];omega),DA];rfl
     have gg:=GP g v Io;refine CH mixed (p:=[(0,0),(1,0),(2,0),(3,0),(4,0),(5,0),(6,0),(7,0),(8,0),(9,0),(10,0),(11,0),(12,0),(13,0),(14,0),(15,0)]) (by kernel_rfl) (by simp[C8,get]) ?_;simp only[go_sem,Ab,l1,l2,l3,l4,i1,ga,gg];cases c1:decide ((s1.ad v:Int)<((g.getD v []).length:Int))
     . simp only[go_sem,c1];refine CH mixed (p:=[(0,0),(1,0),(2,0),(3,0),(4,0),(5,0),(6,0),(7,0),(8,0),(9,0),(10,0),(11,0),(12,0),(13,0),(14,3)]) (by kernel_rfl) (by simp[C8,get]) ?_;have hpl:s1.path.length=ps.length+1:=by rw[hp];simp
       have RW:IntKind.i64.wrap ((s1.path.length:Int) - 1)=((ps.length:Nat):Int):=by rw[hpl,B3 (by omega) (by omega)];omega
       have U8:(0:Int)<=((ps.length:Nat):Int)/\((ps.length:Nat):Int)<=(s1.path.length:Int):=by omega
       have hw3:(((ps.length:Nat):Int) - 0).toNat=ps.length:=by omega
       have gl:(BX (nI s1.low)).getD v []=[.int .i64 (s1.lw v:Nat)]:=by rw[Cj (nI s1.low) v (by rw[Cz];omega),DA];rfl
       have gnv:(BX (nI s1.seen)).getD v []=[.int .i64 (s1.sn v:Nat)]:=by rw[Cj (nI s1.seen) v (by rw[Cz];omega),DA];rfl
       simp only[go_sem,Ab,l1,l2,l3,l4,RW,U8,hw3];refine CH mixed (p:=[(0,0),(1,0),(2,0),(3,0),(4,0),(5,0),(6,0),(7,0),(8,0),(9,0),(10,0),(11,0),(12,0),(13,0),(14,0)]) (by kernel_rfl) (by simp[C8,get]) ?_;simp only[go_sem,Ab,l1,l2,l3,l4,i1,gl,gnv];have Ke:s1.ad v=(g.getD v []).length:=by have:=Ae c1;have:=tj.atl v;omega
       rcases List.eq_nil_or_concat ps with rfl | ⟨G1,t,Akq⟩
       . have hlr:=tj.root (v:=v) (by simpa using hp);have c5:decide ((s1.lw v:Int)=(s1.sn v:Int))=true:=Ag (by omega);obtain ⟨i,hi,PG⟩:=AA.1 Qh;rw[<-getD_eq (x:=0) hi] at PG;have hc:=Ha g sh s1 s1.path 0 i hi (by omega) (Lf tj hi PG).2.2 (λ w hw=>by rw[l4];exact (tj.Yc w ((tj.Ng w).1 hw).1).1);simp only[Sr.bx,l1,l2,l3,l4,PG] at hc;simp only[go_sem,c5];refine DF hc ?_;rintro h' r ⟨m,⟨SC,Sl⟩,rfl,rfl⟩;have hT':=tj.HT (ps:=[]) hp Ke hlr hi PG SC Sl;have Dx:i=0:=by
           rcases BV i with h | h
           . exact h
           . obtain ⟨p,h3,_⟩:=hT'.anc (s1.held.getD 0 0) (by show _∈s1.held.take i;rw[getD_eq (show 0<s1.held.length by omega)];exact AA.2 ⟨0,by simp;omega,by rw[List.getElem_take]⟩);cases h3
         subst Dx;simp only[go_sem];refine C0 ?_;simp only[go_sem];exact ⟨s1.HT [] 0 m,s1.path,s1.held,hT',rfl,by simp[Sr.HT],by show s1.count+_=_;rw[Ic (s':=s1.HT [] 0 m) (s:=s1) rfl];exact cu,mo,WT,.inr ⟨p1,p2,rfl⟩⟩
       . obtain rfl:ps=G1++[t]:=by rw[Akq,List.concat_eq_append]
         have htp:t∈s1.path:=by rw[hp];simp
         have htn:=(tj.Yc t ((tj.Ng t).1 (tj.UF t htp)).1).1;have c6:decide ((0:Int)<(((G1++[t]).length:Nat):Int))=true:=Ag (by simp);have hw4:IntKind.i64.wrap ((((G1++[t]).length:Nat):Int) - 1)=((G1.length:Nat):Int):=by rw[B3 (by omega) (by omega)];simp
         have i5:(0:Int)<=((G1.length:Nat):Int)/\((G1.length:Nat):Int)<(((G1++[t]).length:Nat):Int):=by simp;omega
         have gp:(BX (nI s1.path)).getD G1.length []=[.int .i64 (t:Nat)]:=by
           rw[Cj (nI s1.path) G1.length (by rw[Cz,hp];simp),DA,hp];simp[List.getD]
         have i6:(0:Int)<=(t:Int)/\(t:Int)<(g.length:Int):=by omega
         have gt:(BX (nI s1.low)).getD t []=[.int .i64 (s1.lw t:Nat)]:=by rw[Cj (nI s1.low) t (by rw[Cz];omega),DA];rfl
         have TP:(if (s1.lw v:Int)<(s1.lw t:Int) then (s1.lw v:Int) else (s1.lw t:Int))=((min (s1.lw t) (s1.lw v):Nat):Int):=by split<;>omega
         have hcp:s1.path.take (G1++[t]).length=G1++[t]:=by rw[hp,List.take_left' rfl]
         cases c5:decide ((s1.lw v:Int)=(s1.sn v:Int))
         . have Dl:s1.lw v≠s1.sn v:=by have:=Ae c5;omega
           simp only[go_sem,c5];simp only[go_sem,c6];refine CH mixed (p:=[(0,0),(1,0),(2,0),(3,0),(4,0),(5,0),(6,0),(7,0),(8,0),(9,0),(10,0),(11,0),(12,0),(13,0),(14,0)]) (by kernel_rfl) (by simp[C8,get]) ?_;simp only[go_sem,Ab,hw4,i5,gp];refine CH mixed (p:=[(0,0),(1,0),(2,0),(3,0),(4,0),(5,0),(6,0),(7,0),(8,0),(9,0),(10,0),(11,0),(12,0),(13,0),(14,0),(15,0),(16,0),(17,0),(18,0),(19,0),(20,0),(21,3)]) (by kernel_rfl) (by simp[C8,get]) ?_;simp only[go_sem,Ab,l1,l2,l3,l4,i6,i1,gt,gl,TP];obtain ⟨k1,k2⟩:=FI.back V9 hp Ke Dl p1 p2;refine ih ⟨1,s1.Sf (G1++[t]) t (min (s1.lw t) (s1.lw v)),t,p1,p2⟩ _ k1 (Nat.lt_trans k2 Ct) ?_;have e:(⟨s1.seen,s1.low.set t (min (s1.lw t) (s1.lw v)),s1.at_,s1.path.take (G1++[t]).length,s1.held.take s1.held.length,s1.count,s1.names⟩:Sr)=s1.Sf (G1++[t]) t (min (s1.lw t) (s1.lw v)):=by rw[hcp,At];rfl
           rw[<-e];refine Wk.trans ?_ (Sv g sh p1 p2 1 s1.seen (s1.low.set t (min (s1.lw t) (s1.lw v))) s1.at_ s1.path s1.held (G1++[t]).length s1.held.length s1.count s1.names t (by omega) (Ai _));exact (Wk.forget (by simp[ZF,Cz,Db,l1,l2,l3,l4]))
         . have hlr:s1.lw v=s1.sn v:=by have:=Ad c5;omega
           obtain ⟨i,hi,PG⟩:=AA.1 Qh;rw[<-getD_eq (x:=0) hi] at PG;have hc:=Ha g sh s1 s1.path (G1++[t]).length i hi (by omega) (Lf tj hi PG).2.2 (λ w hw=>by rw[l4];exact (tj.Yc w ((tj.Ng w).1 hw).1).1);simp only[Sr.bx,l1,l2,l3,l4,PG] at hc;simp only[go_sem,c5];refine DF hc ?_;rintro h' r ⟨m,⟨SC,Sl⟩,rfl,rfl⟩;obtain ⟨k1,k2,k3⟩:=FI.comp V9 hp Ke hlr hi PG SC Sl p1 p2;rw[k3] at TP;have hls:s1.low.set t (s1.lw t)=s1.low:=by
             apply List.ext_getElem (by simp);intro j h1 h2;rw[List.getElem_set];split
             . rename_i e;subst e;exact getD_eq h2
             . rfl
           simp only[go_sem];simp only[go_sem,c6];refine CH mixed (p:=[(0,0),(1,0),(2,0),(3,0),(4,0),(5,0),(6,0),(7,0),(8,0),(9,0),(10,0),(11,0),(12,0),(13,0),(14,0)]) (by kernel_rfl) (by simp[C8,get]) ?_;simp only[go_sem,Ab,hw4,i5,gp];refine CH mixed (p:=[(0,0),(1,0),(2,0),(3,0),(4,0),(5,0),(6,0),(7,0),(8,0),(9,0),(10,0),(11,0),(12,0),(13,0),(14,0),(15,0),(16,0),(17,0),(18,0),(19,0),(20,0),(21,3)]) (by kernel_rfl) (by simp[C8,get]) ?_;simp only[go_sem,Ab,l1,l2,l3,l4,i6,i1,gt,gl,TP,hls];refine ih ⟨1,s1.HT (G1++[t]) i m,t,p1,p2⟩ _ k1 (Nat.lt_trans k2 Ct) ?_;have e:(⟨s1.seen,s1.low,s1.at_,s1.path.take (G1++[t]).length,s1.held.take i,s1.count,E2 s1.names (s1.held.drop i) m⟩:Sr)=s1.HT (G1++[t]) i m:=by rw[hcp];rfl
           rw[<-e];refine Wk.trans ?_ (Sv g sh p1 p2 1 s1.seen s1.low s1.at_ s1.path s1.held (G1++[t]).length i s1.count (E2 s1.names (s1.held.drop i) m) t (by omega) (by omega));exact (Wk.forget (by simp[ZF,Cz,Db,l1,l2,l3,l4,HP,hls]))
     . have hk:s1.ad v<(g.getD v []).length:=by have:=Ad c1;omega
       obtain ⟨w,hw,hwn⟩:=tj.rng v _ hk;have gw:(BX (g.getD v [])).getD (s1.ad v) []=[.int .i64 (w:Nat)]:=by rw[Cj _ _ hk,hw]
       have i2:(0:Int)<=(s1.ad v:Int)/\(s1.ad v:Int)<((g.getD v []).length:Int):=by omega
       have i3:(0:Int)<=(w:Int)/\(w:Int)<(g.length:Int):=by omega
       have Xx:(g.getD v []).length<=10000000:=CS _ (by rw[Vg Io];exact AS Io);have hwr:IntKind.i64.wrap ((s1.ad v:Int)+1)=((s1.ad v+1:Nat):Int):=Cu (by omega);have gs:(CT sh).getD w []=[.bool (sh.getD w false)]:=GO sh w (by omega);have gn:(BX (nI s1.seen)).getD w []=[.int .i64 (s1.sn w:Nat)]:=by rw[Cj (nI s1.seen) w (by rw[Cz];omega),DA];rfl
       have gnm:(BX s1.names).getD w []=[.int .i64 (s1.nm w)]:=by rw[Cj s1.names w (by omega)];simp[Sr.nm,List.getD,show w<s1.names.length by omega]
       simp only[go_sem,c1];refine CH mixed (p:=[(0,0),(1,0),(2,0),(3,0),(4,0),(5,0),(6,0),(7,0),(8,0),(9,0),(10,0),(11,0),(12,0),(13,0),(14,0),(15,0),(16,0)]) (by kernel_rfl) (by simp[C8,get]) ?_;simp only[go_sem,Ab,l1,l2,l3,l4,i1,ga,gg,i2,gw,i3,hwr,gs,Jp];cases c2:sh.getD w false;rotate_left
       . simp only[go_sem,c2];obtain ⟨k1,k2⟩:=FI.Aex V9 hk hw (λ h=>by rw[h] at c2;cases c2) p1 p2;refine ih ⟨1,s1.inc v,v,p1,p2⟩ _ k1 (Nat.lt_trans k2 Ct) ?_;rw[show s1.inc v=(⟨s1.seen,s1.low,s1.at_.set v (s1.ad v+1),s1.path.take s1.path.length,s1.held.take s1.held.length,s1.count,s1.names⟩:Sr) by rw[At,At];rfl];refine Wk.trans ?_ (Sv g sh p1 p2 1 s1.seen s1.low (s1.at_.set v (s1.ad v+1)) s1.path s1.held s1.path.length s1.held.length s1.count s1.names v (Ai _) (Ai _));exact (Wk.forget (by simp[ZF,Cz,Db,l1,l2,l3,l4]))
       . simp only[go_sem,c2];simp only[go_sem,c2,Ab,l1,i3,gn];cases c3:decide ((s1.sn w:Int)=0);rotate_left
         . simp only[go_sem,c3];obtain ⟨k1,k2⟩:=FI.Au9 V9 hk hw hwn c2 (by have:=Ad c3;omega) p1 p2;refine ih ⟨0,s1.inc v,w,p1,p2⟩ _ k1 (Nat.lt_trans k2 Ct) ?_;rw[show s1.inc v=(⟨s1.seen,s1.low,s1.at_.set v (s1.ad v+1),s1.path.take s1.path.length,s1.held.take s1.held.length,s1.count,s1.names⟩:Sr) by rw[At,At];rfl];refine Wk.trans ?_ (Sv g sh p1 p2 0 s1.seen s1.low (s1.at_.set v (s1.ad v+1)) s1.path s1.held s1.path.length s1.held.length s1.count s1.names w (Ai _) (Ai _));exact (Wk.forget (by simp[ZF,Cz,Db,l1,l2,l3,l4]))
         have h3:s1.sn w≠0:=by have:=Ae c3;omega
         simp only[go_sem,c3];simp only[go_sem,c3,Ab,l4,i3,gnm];cases c4:decide (s1.nm w<0)
         . simp only[go_sem,c4];obtain ⟨k1,k2⟩:=FI.Aex V9 hk hw (λ _=>⟨h3,λ hm=>by have:=((tj.Ng w).1 hm).2;have:=Ae c4;omega⟩) p1 p2;refine ih ⟨1,s1.inc v,v,p1,p2⟩ _ k1 (Nat.lt_trans k2 Ct) ?_;rw[show s1.inc v=(⟨s1.seen,s1.low,s1.at_.set v (s1.ad v+1),s1.path.take s1.path.length,s1.held.take s1.held.length,s1.count,s1.names⟩:Sr) by rw[At,At];rfl];refine Wk.trans ?_ (Sv g sh p1 p2 1 s1.seen s1.low (s1.at_.set v (s1.ad v+1)) s1.path s1.held s1.path.length s1.held.length s1.count s1.names v (Ai _) (Ai _));exact (Wk.forget (by simp[ZF,Cz,Db,l1,l2,l3,l4]))
         . have h4:=Ad c4;have gl:(BX (nI s1.low)).getD v []=[.int .i64 (s1.lw v:Nat)]:=by rw[Cj (nI s1.low) v (by rw[Cz];omega),DA];rfl
           simp only[go_sem,c4];refine CH mixed (p:=[(0,0),(1,0),(2,0),(3,0),(4,0),(5,0),(6,0),(7,0),(8,0),(9,0),(10,0),(11,0),(12,0),(13,0),(14,0),(15,0),(16,0),(17,0),(18,0),(19,0),(20,0),(21,3)]) (by kernel_rfl) (by simp[C8,get]) ?_;have hmn:(if (s1.sn w:Int)<(s1.lw v:Int) then (s1.sn w:Int) else (s1.lw v:Int))=((min (s1.lw v) (s1.sn w):Nat):Int):=by split<;>omega
           simp only[go_sem,Ab,l1,l2,l3,l4,i1,i3,gl,gn,hmn];obtain ⟨k1,k2⟩:=FI.Au8 V9 hk hw c2 h3 h4 p1 p2;refine ih ⟨1,(s1.inc v).lo1 v (min (s1.lw v) (s1.sn w)),v,p1,p2⟩ _ k1 (Nat.lt_trans k2 Ct) ?_;rw[show (s1.inc v).lo1 v (min (s1.lw v) (s1.sn w))=(⟨s1.seen,s1.low.set v (min (s1.lw v) (s1.sn w)),s1.at_.set v (s1.ad v+1),s1.path.take s1.path.length,s1.held.take s1.held.length,s1.count,s1.names⟩:Sr) by rw[At,At];rfl];refine Wk.trans ?_ (Sv g sh p1 p2 1 s1.seen (s1.low.set v (min (s1.lw v) (s1.sn w))) (s1.at_.set v (s1.ad v+1)) s1.path s1.held s1.path.length s1.held.length s1.count s1.names v (Ai _) (Ai _));exact (Wk.forget (by simp[ZF,Cz,Db,l1,l2,l3,l4]))
   . obtain ⟨rfl,ps,hp⟩:=at1 hl;rw[if_neg hl] at tj;refine ⟨_,rfl,?_⟩;obtain ⟨hvp,Qh,Io,Af4,TQ,hps,Aqm⟩:=tj.last hp;unfold FB.st;simp only[go_sem];have l1:=tj.l1;have l2:=tj.l2;have l3:=tj.l3;have l4:=tj.l4;have i1:(0:Int)<=(v:Int)/\(v:Int)<(g.length:Int):=by omega
     have ga:(BX (nI s.at_)).getD v []=[.int .i64 (s.ad v:Nat)]:=by rw[Cj (nI s.at_) v (by rw[Cz];omega),DA];rfl
     have gg:=GP g v Io;refine CH mixed (p:=[(0,0),(1,0),(2,0),(3,0),(4,0),(5,0),(6,0),(7,0),(8,0),(9,0),(10,0),(11,0),(12,0),(13,0),(14,0),(15,0)]) (by kernel_rfl) (by simp[C8,get]) ?_;simp only[go_sem,Ab,l1,l2,l3,l4,i1,ga,gg];cases c1:decide ((s.ad v:Int)<((g.getD v []).length:Int))
     . simp only[go_sem,c1];refine CH mixed (p:=[(0,0),(1,0),(2,0),(3,0),(4,0),(5,0),(6,0),(7,0),(8,0),(9,0),(10,0),(11,0),(12,0),(13,0),(14,3)]) (by kernel_rfl) (by simp[C8,get]) ?_;have hpl:s.path.length=ps.length+1:=by rw[hp];simp
       have RW:IntKind.i64.wrap ((s.path.length:Int) - 1)=((ps.length:Nat):Int):=by rw[hpl,B3 (by omega) (by omega)];omega
       have U8:(0:Int)<=((ps.length:Nat):Int)/\((ps.length:Nat):Int)<=(s.path.length:Int):=by omega
       have hw3:(((ps.length:Nat):Int) - 0).toNat=ps.length:=by omega
       have gl:(BX (nI s.low)).getD v []=[.int .i64 (s.lw v:Nat)]:=by rw[Cj (nI s.low) v (by rw[Cz];omega),DA];rfl
       have gnv:(BX (nI s.seen)).getD v []=[.int .i64 (s.sn v:Nat)]:=by rw[Cj (nI s.seen) v (by rw[Cz];omega),DA];rfl
       simp only[go_sem,Ab,l1,l2,l3,l4,RW,U8,hw3];refine CH mixed (p:=[(0,0),(1,0),(2,0),(3,0),(4,0),(5,0),(6,0),(7,0),(8,0),(9,0),(10,0),(11,0),(12,0),(13,0),(14,0)]) (by kernel_rfl) (by simp[C8,get]) ?_;simp only[go_sem,Ab,l1,l2,l3,l4,i1,gl,gnv];have Ke:s.ad v=(g.getD v []).length:=by have:=Ae c1;have:=tj.atl v;omega
       rcases List.eq_nil_or_concat ps with rfl | ⟨G1,t,Akq⟩
       . have hlr:=tj.root (v:=v) (by simpa using hp);have c5:decide ((s.lw v:Int)=(s.sn v:Int))=true:=Ag (by omega);obtain ⟨i,hi,PG⟩:=AA.1 Qh;rw[<-getD_eq (x:=0) hi] at PG;have hc:=Ha g sh s s.path 0 i hi (by omega) (Lf tj hi PG).2.2 (λ w hw=>by rw[l4];exact (tj.Yc w ((tj.Ng w).1 hw).1).1);simp only[Sr.bx,l1,l2,l3,l4,PG] at hc;simp only[go_sem,c5];refine DF hc ?_;rintro h' r ⟨m,⟨SC,Sl⟩,rfl,rfl⟩;have hT':=tj.HT (ps:=[]) hp Ke hlr hi PG SC Sl;have Dx:i=0:=by
           rcases BV i with h | h
           . exact h
           . obtain ⟨p,h3,_⟩:=hT'.anc (s.held.getD 0 0) (by show _∈s.held.take i;rw[getD_eq (show 0<s.held.length by omega)];exact AA.2 ⟨0,by simp;omega,by rw[List.getElem_take]⟩);cases h3
         subst Dx;simp only[go_sem];refine C0 ?_;simp only[go_sem];exact ⟨s.HT [] 0 m,s.path,s.held,hT',rfl,by simp[Sr.HT],by show s.count+_=_;rw[Ic (s':=s.HT [] 0 m) (s:=s) rfl];exact cu,mo,WT,.inr ⟨p1,p2,rfl⟩⟩
       . obtain rfl:ps=G1++[t]:=by rw[Akq,List.concat_eq_append]
         have htp:t∈s.path:=by rw[hp];simp
         have htn:=(tj.Yc t ((tj.Ng t).1 (tj.UF t htp)).1).1;have c6:decide ((0:Int)<(((G1++[t]).length:Nat):Int))=true:=Ag (by simp);have hw4:IntKind.i64.wrap ((((G1++[t]).length:Nat):Int) - 1)=((G1.length:Nat):Int):=by rw[B3 (by omega) (by omega)];simp
         have i5:(0:Int)<=((G1.length:Nat):Int)/\((G1.length:Nat):Int)<(((G1++[t]).length:Nat):Int):=by simp;omega
         have gp:(BX (nI s.path)).getD G1.length []=[.int .i64 (t:Nat)]:=by
           rw[Cj (nI s.path) G1.length (by rw[Cz,hp];simp),DA,hp];simp[List.getD]
         have i6:(0:Int)<=(t:Int)/\(t:Int)<(g.length:Int):=by omega
         have gt:(BX (nI s.low)).getD t []=[.int .i64 (s.lw t:Nat)]:=by rw[Cj (nI s.low) t (by rw[Cz];omega),DA];rfl
         have TP:(if (s.lw v:Int)<(s.lw t:Int) then (s.lw v:Int) else (s.lw t:Int))=((min (s.lw t) (s.lw v):Nat):Int):=by split<;>omega
         have hcp:s.path.take (G1++[t]).length=G1++[t]:=by rw[hp,List.take_left' rfl]
         cases c5:decide ((s.lw v:Int)=(s.sn v:Int))
         . have Dl:s.lw v≠s.sn v:=by have:=Ae c5;omega
           simp only[go_sem,c5];simp only[go_sem,c6];refine CH mixed (p:=[(0,0),(1,0),(2,0),(3,0),(4,0),(5,0),(6,0),(7,0),(8,0),(9,0),(10,0),(11,0),(12,0),(13,0),(14,0)]) (by kernel_rfl) (by simp[C8,get]) ?_;simp only[go_sem,Ab,hw4,i5,gp];refine CH mixed (p:=[(0,0),(1,0),(2,0),(3,0),(4,0),(5,0),(6,0),(7,0),(8,0),(9,0),(10,0),(11,0),(12,0),(13,0),(14,0),(15,0),(16,0),(17,0),(18,0),(19,0),(20,0),(21,3)]) (by kernel_rfl) (by simp[C8,get]) ?_;simp only[go_sem,Ab,l1,l2,l3,l4,i6,i1,gt,gl,TP];obtain ⟨k1,k2⟩:=FI.back V9 hp Ke Dl p1 p2;refine ih ⟨1,s.Sf (G1++[t]) t (min (s.lw t) (s.lw v)),t,p1,p2⟩ _ k1 k2 ?_;have e:(⟨s.seen,s.low.set t (min (s.lw t) (s.lw v)),s.at_,s.path.take (G1++[t]).length,s.held.take s.held.length,s.count,s.names⟩:Sr)=s.Sf (G1++[t]) t (min (s.lw t) (s.lw v)):=by rw[hcp,At];rfl
           rw[<-e];refine Wk.trans ?_ (Sv g sh p1 p2 1 s.seen (s.low.set t (min (s.lw t) (s.lw v))) s.at_ s.path s.held (G1++[t]).length s.held.length s.count s.names t (by omega) (Ai _));exact (Wk.forget (by simp[ZF,Cz,Db,l1,l2,l3,l4]))
         . have hlr:s.lw v=s.sn v:=by have:=Ad c5;omega
           obtain ⟨i,hi,PG⟩:=AA.1 Qh;rw[<-getD_eq (x:=0) hi] at PG;have hc:=Ha g sh s s.path (G1++[t]).length i hi (by omega) (Lf tj hi PG).2.2 (λ w hw=>by rw[l4];exact (tj.Yc w ((tj.Ng w).1 hw).1).1);simp only[Sr.bx,l1,l2,l3,l4,PG] at hc;simp only[go_sem,c5];refine DF hc ?_;rintro h' r ⟨m,⟨SC,Sl⟩,rfl,rfl⟩;obtain ⟨k1,k2,k3⟩:=FI.comp V9 hp Ke hlr hi PG SC Sl p1 p2;rw[k3] at TP;have hls:s.low.set t (s.lw t)=s.low:=by
             apply List.ext_getElem (by simp);intro j h1 h2;rw[List.getElem_set];split
             . rename_i e;subst e;exact getD_eq h2
             . rfl
           simp only[go_sem];simp only[go_sem,c6];refine CH mixed (p:=[(0,0),(1,0),(2,0),(3,0),(4,0),(5,0),(6,0),(7,0),(8,0),(9,0),(10,0),(11,0),(12,0),(13,0),(14,0)]) (by kernel_rfl) (by simp[C8,get]) ?_;simp only[go_sem,Ab,hw4,i5,gp];refine CH mixed (p:=[(0,0),(1,0),(2,0),(3,0),(4,0),(5,0),(6,0),(7,0),(8,0),(9,0),(10,0),(11,0),(12,0),(13,0),(14,0),(15,0),(16,0),(17,0),(18,0),(19,0),(20,0),(21,3)]) (by kernel_rfl) (by simp[C8,get]) ?_;simp only[go_sem,Ab,l1,l2,l3,l4,i6,i1,gt,gl,TP,hls];refine ih ⟨1,s.HT (G1++[t]) i m,t,p1,p2⟩ _ k1 k2 ?_;have e:(⟨s.seen,s.low,s.at_,s.path.take (G1++[t]).length,s.held.take i,s.count,E2 s.names (s.held.drop i) m⟩:Sr)=s.HT (G1++[t]) i m:=by rw[hcp];rfl
           rw[<-e];refine Wk.trans ?_ (Sv g sh p1 p2 1 s.seen s.low s.at_ s.path s.held (G1++[t]).length i s.count (E2 s.names (s.held.drop i) m) t (by omega) (by omega));exact (Wk.forget (by simp[ZF,Cz,Db,l1,l2,l3,l4,HP,hls]))
     . have hk:s.ad v<(g.getD v []).length:=by have:=Ad c1;omega
       obtain ⟨w,hw,hwn⟩:=tj.rng v _ hk;have gw:(BX (g.getD v [])).getD (s.ad v) []=[.int .i64 (w:Nat)]:=by rw[Cj _ _ hk,hw]
       have i2:(0:Int)<=(s.ad v:Int)/\(s.ad v:Int)<((g.getD v []).length:Int):=by omega
       have i3:(0:Int)<=(w:Int)/\(w:Int)<(g.length:Int):=by omega
       have Xx:(g.getD v []).length<=10000000:=CS _ (by rw[Vg Io];exact AS Io);have hwr:IntKind.i64.wrap ((s.ad v:Int)+1)=((s.ad v+1:Nat):Int):=Cu (by omega);have gs:(CT sh).getD w []=[.bool (sh.getD w false)]:=GO sh w (by omega);have gn:(BX (nI s.seen)).getD w []=[.int .i64 (s.sn w:Nat)]:=by rw[Cj (nI s.seen) w (by rw[Cz];omega),DA];rfl
       have gnm:(BX s.names).getD w []=[.int .i64 (s.nm w)]:=by rw[Cj s.names w (by omega)];simp[Sr.nm,List.getD,show w<s.names.length by omega]
       simp only[go_sem,c1];refine CH mixed (p:=[(0,0),(1,0),(2,0),(3,0),(4,0),(5,0),(6,0),(7,0),(8,0),(9,0),(10,0),(11,0),(12,0),(13,0),(14,0),(15,0),(16,0)]) (by kernel_rfl) (by simp[C8,get]) ?_;simp only[go_sem,Ab,l1,l2,l3,l4,i1,ga,gg,i2,gw,i3,hwr,gs,Jp];cases c2:sh.getD w false;rotate_left
       . simp only[go_sem,c2];obtain ⟨k1,k2⟩:=FI.Aex V9 hk hw (λ h=>by rw[h] at c2;cases c2) p1 p2;refine ih ⟨1,s.inc v,v,p1,p2⟩ _ k1 k2 ?_;rw[show s.inc v=(⟨s.seen,s.low,s.at_.set v (s.ad v+1),s.path.take s.path.length,s.held.take s.held.length,s.count,s.names⟩:Sr) by rw[At,At];rfl];refine Wk.trans ?_ (Sv g sh p1 p2 1 s.seen s.low (s.at_.set v (s.ad v+1)) s.path s.held s.path.length s.held.length s.count s.names v (Ai _) (Ai _));exact (Wk.forget (by simp[ZF,Cz,Db,l1,l2,l3,l4]))
       . simp only[go_sem,c2];simp only[go_sem,c2,Ab,l1,i3,gn];cases c3:decide ((s.sn w:Int)=0);rotate_left
         . simp only[go_sem,c3];obtain ⟨k1,k2⟩:=FI.Au9 V9 hk hw hwn c2 (by have:=Ad c3;omega) p1 p2;refine ih ⟨0,s.inc v,w,p1,p2⟩ _ k1 k2 ?_;rw[show s.inc v=(⟨s.seen,s.low,s.at_.set v (s.ad v+1),s.path.take s.path.length,s.held.take s.held.length,s.count,s.names⟩:Sr) by rw[At,At];rfl];refine Wk.trans ?_ (Sv g sh p1 p2 0 s.seen s.low (s.at_.set v (s.ad v+1)) s.path s.held s.path.length s.held.length s.count s.names w (Ai _) (Ai _));exact (Wk.forget (by simp[ZF,Cz,Db,l1,l2,l3,l4]))
         have h3:s.sn w≠0:=by have:=Ae c3;omega
         simp only[go_sem,c3];simp only[go_sem,c3,Ab,l4,i3,gnm];cases c4:decide (s.nm w<0)
         . simp only[go_sem,c4];obtain ⟨k1,k2⟩:=FI.Aex V9 hk hw (λ _=>⟨h3,λ hm=>by have:=((tj.Ng w).1 hm).2;have:=Ae c4;omega⟩) p1 p2;refine ih ⟨1,s.inc v,v,p1,p2⟩ _ k1 k2 ?_;rw[show s.inc v=(⟨s.seen,s.low,s.at_.set v (s.ad v+1),s.path.take s.path.length,s.held.take s.held.length,s.count,s.names⟩:Sr) by rw[At,At];rfl];refine Wk.trans ?_ (Sv g sh p1 p2 1 s.seen s.low (s.at_.set v (s.ad v+1)) s.path s.held s.path.length s.held.length s.count s.names v (Ai _) (Ai _));exact (Wk.forget (by simp[ZF,Cz,Db,l1,l2,l3,l4]))
         . have h4:=Ad c4;have gl:(BX (nI s.low)).getD v []=[.int .i64 (s.lw v:Nat)]:=by rw[Cj (nI s.low) v (by rw[Cz];omega),DA];rfl
           simp only[go_sem,c4];refine CH mixed (p:=[(0,0),(1,0),(2,0),(3,0),(4,0),(5,0),(6,0),(7,0),(8,0),(9,0),(10,0),(11,0),(12,0),(13,0),(14,0),(15,0),(16,0),(17,0),(18,0),(19,0),(20,0),(21,3)]) (by kernel_rfl) (by simp[C8,get]) ?_;have hmn:(if (s.sn w:Int)<(s.lw v:Int) then (s.sn w:Int) else (s.lw v:Int))=((min (s.lw v) (s.sn w):Nat):Int):=by split<;>omega
           simp only[go_sem,Ab,l1,l2,l3,l4,i1,i3,gl,gn,hmn];obtain ⟨k1,k2⟩:=FI.Au8 V9 hk hw c2 h3 h4 p1 p2;refine ih ⟨1,(s.inc v).lo1 v (min (s.lw v) (s.sn w)),v,p1,p2⟩ _ k1 k2 ?_;rw[show (s.inc v).lo1 v (min (s.lw v) (s.sn w))=(⟨s.seen,s.low.set v (min (s.lw v) (s.sn w)),s.at_.set v (s.ad v+1),s.path.take s.path.length,s.held.take s.held.length,s.count,s.names⟩:Sr) by rw[At,At];rfl];refine Wk.trans ?_ (Sv g sh p1 p2 1 s.seen (s.low.set v (min (s.lw v) (s.sn w))) (s.at_.set v (s.ad v+1)) s.path s.held s.path.length s.held.length s.count s.names v (Ai _) (Ai _));exact (Wk.forget (by simp[ZF,Cz,Db,l1,l2,l3,l4]))
structure NB where
 k:Nat
 s:Sr
def NB.st(g:List (List Int))(sh:List Bool)(b:NB):St:=⟨[(1,.p (.sl (CT sh))),(8,.ptr 30 0),(31,.p (.int .i64 (g.length:Nat))),(32,.p (.int .i64 (b.k:Nat)))],
 [(30,.box [.p (.sl (Cr g)),.p (.sl (CT sh)),.ref 21 0 g.length g.length,.ref 23 0 g.length g.length,.ref 25 0 g.length g.length,.ref 40005 0 0 0,.ref 40006 0 0 0,.p (.int .i64 (b.s.count:Nat)),.ref 10028 0 g.length g.length]),
  (25,.arr 3 1 (BX (nI b.s.at_))),(23,.arr 3 1 (BX (nI b.s.low))),(21,.arr 3 1 (BX (nI b.s.seen))),(10028,.arr 3 1 (BX b.s.names)),(40005,.arr 3 1 []),(40006,.arr 3 1 [])],58⟩
def YO(n:Nat):Sr:=⟨List.replicate n 0,List.replicate n 0,List.replicate n 0,[],[],0,List.replicate n (-1)⟩
def NIc(g:List (List Int))(sh:List Bool)(b:NB):Prop:=b.k<=g.length/\TJ g sh Pm b.s/\b.s.path=[]/\b.s.held=[]/\b.s.count+Lv g b.s=g.length/\∀x,x<b.k->sh.getD x false=false->b.s.sn x≠0
theorem Au0(n:Nat):nI (List.replicate n 0)=List.replicate n 0:=by simp[nI]
theorem Az2(g:List (List Int))(sh:List Bool)(k:Nat)(s:Sr)(P H:List Nat):Wk ⟨[(1,.p (.sl (CT sh))),(8,.ptr 30 0),(31,.p (.int .i64 (g.length:Nat))),(32,.p (.int .i64 (k:Nat)))],
     [(30,.box [.p (.sl (Cr g)),.p (.sl (CT sh)),.ref 21 0 g.length g.length,.ref 23 0 g.length g.length,.ref 25 0 g.length g.length,.ref 10052 0 0 P.length,.ref 20052 0 0 H.length,.p (.int .i64 (s.count:Nat)),.ref 10028 0 g.length g.length]),
      (25,.arr 3 1 (BX (nI s.at_))),(23,.arr 3 1 (BX (nI s.low))),(21,.arr 3 1 (BX (nI s.seen))),(10028,.arr 3 1 (BX s.names)),(10052,.arr 3 1 (BX (nI P))),(20052,.arr 3 1 (BX (nI H)))],58⟩ (NB.st g sh ⟨k,s⟩):=by
 refine (Wk.H8 (id:=30) (j:=5) (q:=10052) (k:=0) (es:=BX (nI P)) 40005 rfl (by simp[Cz,BW]) rfl (AE _) rfl).trans ?_;refine (Wk.H8 (id:=30) (j:=6) (q:=20052) (k:=0) (es:=BX (nI H)) 40006 rfl (by simp[Cz,BW]) rfl (AE _) rfl).trans ?_;exact (Wk.forget (by simp[ZF,NB.st,Cz,BW,List.take_zero]))
theorem Bcw(g:List (List Int))(sh:List Bool)(k:Nat)(s:Sr)(P H:List Nat):Wk ⟨[(1,.p (.sl (CT sh))),(8,.ptr 30 0),(31,.p (.int .i64 (g.length:Nat))),(32,.p (.int .i64 (k:Nat)))],
     [(30,.box [.p (.sl (Cr g)),.p (.sl (CT sh)),.ref 21 0 g.length g.length,.ref 23 0 g.length g.length,.ref 25 0 g.length g.length,.ref 40005 0 0 P.length,.ref 40006 0 0 H.length,.p (.int .i64 (s.count:Nat)),.ref 10028 0 g.length g.length]),
      (25,.arr 3 1 (BX (nI s.at_))),(23,.arr 3 1 (BX (nI s.low))),(21,.arr 3 1 (BX (nI s.seen))),(10028,.arr 3 1 (BX s.names)),(40005,.arr 3 1 (BX (nI P))),(40006,.arr 3 1 (BX (nI H)))],58⟩ (NB.st g sh ⟨k,s⟩):=by
 refine (Wk.H8 (id:=30) (j:=5) (q:=40005) (k:=0) (es:=BX (nI P)) 10052 rfl (by simp[Cz,BW]) rfl (AE _) rfl).trans ?_;refine (Wk.H8 (id:=30) (j:=6) (q:=40006) (k:=0) (es:=BX (nI H)) 20052 rfl (by simp[Cz,BW]) rfl (AE _) rfl).trans ?_;refine Wk.trans ?_ (Az2 g sh k s [] []);exact (Wk.forget (by simp[ZF,Cz,BW,List.take_zero,nI,BX]))
theorem Ahi(g:List (List Int))(sh:List Bool)(hg:g.length<=24)(CS:∀r∈g,r.length<=10000000)(Jp:sh.length=g.length)(hc:Fc g sh=some 0)(h00:NIc g sh ⟨0,YO g.length⟩):
   BZ prog 67 [.p (.sl (Cr g)),.p (.sl (CT sh))] [] λ h d=>∃s,(TJ g sh Pm s/\s.path=[]/\s.held=[]/\∀x,x<g.length->sh.getD x false=false->s.sn x≠0)/\h=[(0,.arr 3 1 (BX s.names))]/\d= .Dg [.ref 0 0 g.length g.length,.p (.int .i64 0)]:=by
 have h0:(0:Int)<=((g.length:Nat):Int):=by omega
 refine B1 func67 rfl ZM (by simp[Tryz.f67]) ?_;simp only[go_sem];refine Cq ((Uq g sh 0 hc)) ?_;simp only[go_sem];refine CH mixed (p:=[(0,0),(1,0),(2,0),(4,0),(6,0),(9,0),(3,1),(5,1),(7,1),(8,1),(10,2),(11,0),(12,1),(13,0)]) (by kernel_rfl) (by simp[C8,get]) ?_;have hle:((g.length:Nat):Int)<=((g.length:Nat):Int):=BP _;have hl8:((g.length:Nat):Int)*8<=140737488355328:=by omega
 have hl1:((g.length:Nat):Int)<=140737488355328:=by omega
 simp only[go_sem,h0,hle,hl8,hl1];refine Gq ((Apm g.length hg)) ?_;simp only[go_sem,h0];refine B5 (NB.st g sh) (NIc g sh) (λ b=>g.length - b.k) ⟨0,YO g.length⟩ h00 ?_ ?_
 . refine (Wk.Hl (id:=30) (j:=5) (q:=40005) (sz:=1) 3 rfl rfl rfl (by decide)).trans ?_;refine (Wk.Hl (id:=30) (j:=6) (q:=40006) (sz:=1) 3 rfl rfl rfl (by decide)).trans ?_;exact (Wk.forget (by simp[ZF,NB.st,YO,Au0]))
 rintro ⟨k,s⟩ m ⟨hk,hT,hpa,hhe,hcu,p7⟩ ih;simp only at hk hT hpa hhe hcu p7;unfold NB.st;cases c1:decide ((k:Int)<((g.length:Nat):Int))
 . obtain rfl:k=g.length:=by have:=Ae c1;omega
   have hl:=hT.l4;simp only[go_sem,c1,hl];refine C0 ?_;simp only[go_sem,c1,hl];exact ⟨s,⟨hT,hpa,hhe,p7⟩,rfl⟩
 . have JF:k<g.length:=by simpa using Ad c1
   have h4:(0:Int)<=(k:Int)/\(k:Int)<((g.length:Nat):Int):=by omega
   have h5:(0:Int)<=(k:Int)/\(k:Int)<((sh.length:Nat):Int):=by omega
   have f1:=GO sh k (by omega);have g1:=Cj (nI s.seen) k (by rw[Cz,hT.l1];exact JF);rw[DA] at g1;have lse:(nI s.seen).length=g.length:=by rw[Cz,hT.l1]
   cases c2:sh.getD k false
   . rw[c2] at f1;cases c3:decide (((s.seen.getD k 0:Nat):Int)=0)
     . simp only[go_sem,c1,h4,h5,Jp,f1,g1,c3,lse];have G5:s.sn k≠0:=λ h=>by have:=Ae c3;unfold Sr.sn at h;omega
       refine ih ⟨k+1,s⟩ _ ⟨JF,hT,hpa,hhe,hcu,?_⟩ (by simp only;omega) ?_
       . simp only;intro x hx hxo;rcases AG.1 hx with h1 | rfl
         . exact p7 x h1 hxo
         . exact G5
       . rw[Cu (by omega)];exact (Wk.forget (by simp[ZF,NB.st]))
     . have G5:s.sn k=0:=by have:=Ad c3;unfold Sr.sn;omega
       have Mv:=Ar2 g sh s k hg CS Jp hT hpa hhe hcu JF c2 G5;unfold Sr.bx at Mv;rw[hpa,hhe,hT.l1,hT.l2,hT.l3,hT.l4] at Mv;simp only[go_sem,c1,h4,h5,Jp,f1,g1,c3,lse];refine DF Mv ?_;rintro h' r ⟨⟨s',P,H,hT',hp',hh',Ay8,Axv,Bb8,Mu⟩,rfl⟩;have Axj:∀x,x<k+1->sh.getD x false=false->s'.sn x≠0:=by
         intro x hx hxo;rcases AG.1 hx with h1 | rfl
         . exact Axv x (p7 x h1 hxo)
         . exact Bb8
       rcases Mu with rfl | ⟨p1,p2,rfl⟩
       . simp only[go_sem];refine ih ⟨k+1,s'⟩ _ ⟨JF,hT',hp',hh',Ay8,Axj⟩ (by simp only;omega) ?_;rw[Cu (by omega)];exact Wk.trans (Wk.forget (by simp[ZF,])) (Bcw g sh (k+1) s' P H)
       . simp only[go_sem];refine ih ⟨k+1,s'⟩ _ ⟨JF,hT',hp',hh',Ay8,Axj⟩ (by simp only;omega) ?_;rw[Cu (by omega)];exact Wk.trans (Wk.forget (by simp[ZF,])) (Az2 g sh (k+1) s' P H)
   . rw[c2] at f1;simp only[go_sem,c1,h4,h5,Jp,f1,g1];refine ih ⟨k+1,s⟩ _ ⟨JF,hT,hpa,hhe,hcu,?_⟩ (by simp only;omega) ?_
     . simp only;intro x hx hxo;rcases AG.1 hx with h1 | rfl
       . exact p7 x h1 hxo
       . rw[c2] at hxo;cases hxo
     . rw[Cu (by omega)];exact (Wk.forget (by simp[ZF,NB.st]))
theorem Ajb(n v:Nat):(List.replicate n 0:List Nat).getD v 0=0:=by
 simp only[List.getD,Bb];split<;>rfl
theorem Awu(n v:Nat):(List.replicate n (-1):List Int).getD v (-1)=-1:=by
 simp only[List.getD,Bb];split<;>rfl
theorem TJ.init(g:List (List Int))(sh:List Bool)(hr:∀v k,k<(g.getD v []).length->∃w:Nat,(g.getD v []).getD k 0=(w:Int)/\w<g.length):TJ g sh Pm (YO g.length):=by
 have sn0:∀v,(YO g.length).sn v=0:=λ v=>Ajb _ v;have ad0:∀v,(YO g.length).ad v=0:=λ v=>Ajb _ v;have nm0:∀v,(YO g.length).nm v=-1:=λ v=>Awu _ v;have hh:(YO g.length).held=[]:=rfl;have hp:(YO g.length).path=[]:=rfl;refine ⟨by simp[YO],by simp[YO],by simp[YO],by simp[YO],hr,?_,?_,?_,?_,?_,?_,?_,?_,?_,?_,?_,?_,?_,?_,?_,?_,?_,?_⟩
 . intro v;rw[sn0];exact AE _
 . intro v w _ h;exact absurd (sn0 v) h
 . intro v h;exact absurd (sn0 v) h
 . intro v _;exact ad0 v
 . intro v;rw[ad0];exact AE _
 . intro v;rw[hh,sn0];simp
 . rw[hh];exact List.Pairwise.nil
 . rw[hp];intro p h;cases h
 . rw[hp];exact List.Pairwise.nil
 . intro v h;rw[nm0] at h;omega
 . intro v w h;rw[nm0] at h;omega
 . rw[hh];intro x h;cases h
 . rw[hh];intro x h;cases h
 . rw[hh];intro x h;cases h
 . rw[hp];intro p h;cases h
 . rw[hp];intro p h;cases h
 . rw[hh];intro x h;cases h
 . intro v _;exact nm0 v
theorem TJ.done{g:List (List Int)}{sh:List Bool}{s:Sr}(h:TJ g sh Pm s)(hh:s.held=[])(ha:∀x,x<g.length->sh.getD x false=false->s.sn x≠0)(v:Nat)(hv:v<g.length):
   (sh.getD v false=false->0<=s.nm v/\Ry g sh v (s.nm v))/\(sh.getD v false=true->s.nm v=-1):=by
 constructor
 . intro ho;have h1:=ha v hv ho;have h2:0<=s.nm v:=by
     rcases Int.lt_or_le (s.nm v) 0 with h3 | h3
     . have:=(h.Ng v).2 ⟨h1,h3⟩;rw[hh] at this;cases this
     . exact h3
   exact ⟨h2,(h.UH v h2).2⟩
 . intro ho;refine h.nmx v ?_;rcases Int.lt_or_le (s.nm v) 0 with h3 | h3
   . exact h3
   . have:=(h.Yc v (h.UH v h3).1).2;rw[ho] at this;cases this
theorem Ait(n:Nat):(UU n λ _=>1)=n:=by
 induction n with
 | zero=>rfl
 | succ n ih=>rw[IX,ih]
theorem Adf(g:List (List Int)):Lv g (YO g.length)=g.length:=by
 unfold Lv;have e:∀v,(YO g.length).sn v=0:=λ v=>Ajb _ v;simp only[e,AM];exact Ait _
theorem Aok(g:List (List Int))(sh:List Bool)(hr:∀v k,k<(g.getD v []).length->∃w:Nat,(g.getD v []).getD k 0=(w:Int)/\w<g.length):NIc g sh ⟨0,YO g.length⟩:=by
 refine ⟨AE _,TJ.init g sh hr,rfl,rfl,?_,λ x hx=>absurd hx (AZ _)⟩
 show 0+Lv g (YO g.length)=g.length
 rw[Adf];omega
def HC(g:List (List Int))(sh:List Bool)(l:List Int):Prop:=l.length=g.length/\∀v,v<g.length->(sh.getD v false=false->0<=l.getD v (-1)/\Ry g sh v (l.getD v (-1)))/\(sh.getD v false=true->l.getD v (-1)=-1)
theorem Aee(g:List (List Int))(sh:List Bool)(CS:∀r∈g,r.length<=2000000)(hc:Fc g sh=some 0):
   BZ prog 67 [.p (.sl (Cr g)),.p (.sl (CT sh))] [] λ h d=>∃l,HC g sh l/\h=[(0,.arr 3 1 (BX l))]/\d= .Dg [.ref 0 0 g.length g.length,.p (.int .i64 0)]:=by
 have hr:∀v,v<g.length->(g.getD v []).length<=2000000:=λ v hv=>CS _ (by rw[List.getD,Ax hv];exact AS hv);obtain ⟨h1,h2,h3⟩:=Ahk hr hc;refine BZ.mono (Ahi g sh h1 (λ r hm=>Bw (CS r hm) (by omega)) h2 hc (Aok g sh h3)) ?_;rintro h d ⟨s,⟨hT,_,hh,ha⟩,rfl,rfl⟩;exact ⟨s.names,⟨hT.l4,λ v hv=>hT.done hh ha v hv⟩,rfl,rfl⟩
theorem Aed(g:List (List Int))(sh:List Bool)(e:Int)(he:e≠0)(hc:Fc g sh=some e):
   BZ prog 67 [.p (.sl (Cr g)),.p (.sl (CT sh))] [] λ h d=>h=[]/\d= .Dg [.p (.sl []),.p (.int .i64 e)]:=by
 refine B1 func67 rfl ZM (by simp[Tryz.f67]) ?_;simp only[go_sem];refine Cq ((Uq g sh e hc)) ?_;have c1:decide (e=0)=false:=Ah he;simp only[go_sem,c1];all_goals (try refine BY ?_)
 all_goals (try simp only[go_sem,c1])
theorem Aeb(g:List (List Int))(sh:List Bool)(CS:∀r∈g,r.length<=2000000)(hc:Fc g sh=some 0):
   BZ prog 67 [.p (.sl (Cr g)),.p (.sl (CT sh))] [] λ h d=>∃l,HC g sh l/\h=[]/\d= .Dg [.p (.sl (BX l)),.p (.int .i64 0)]:=by
 refine BZ.seal (Aee g sh CS hc) ?_;rintro h d ⟨l,hl,rfl,rfl⟩;have h1:=hl.1;have h2:(BX l).length=g.length:=by rw[BW,h1]
 have h3:(BX l).take g.length=BX l:=by rw[<-h2];exact At
 refine Rw ?_;simp only[go_sem,h2,h3,Rs.all,Pc,AD,Bk];exact ⟨l,hl,rfl⟩
theorem Ry.uniq{g:List (List Int)}{sh:List Bool}{v:Nat}{x y:Int}(h:Ry g sh v x)(k:Ry g sh v y):x=y:=by
 obtain ⟨a,rfl,a1,a2,a3⟩:=h;obtain ⟨b,rfl,b1,b2,b3⟩:=k;have h1:=a3 b b1 b2;have h2:=b3 a a1 a2;omega
theorem HC.uniq{g:List (List Int)}{sh:List Bool}{l m:List Int}(h:HC g sh l)(k:HC g sh m):l=m:=by
 apply List.ext_getElem (by rw[h.1,k.1]);intro v hv RX;have hg:v<g.length:=by rw[<-h.1];exact hv
 have e1:l.getD v (-1)=l[v]:=by simp[List.getD,hv]
 have e2:m.getD v (-1)=m[v]:=by simp[List.getD,RX]
 have h1:=h.2 v hg;have h2:=k.2 v hg;rw[e1] at h1;rw[e2] at h2;cases c:sh.getD v false with
 | true=>rw[h1.2 c,h2.2 c]
 | false=>exact (h1.1 c).2.uniq (h2.1 c).2
def FH(g:List (List Int))(sh:List Bool):List Int:=open Classical in if h:∃l,HC g sh l then Classical.choose h else []
theorem QQ{g:List (List Int)}{sh:List Bool}{l:List Int}(h:HC g sh l):FH g sh=l:=by
 unfold FH;rw[dif_pos ⟨l,h⟩];exact (Classical.choose_spec (⟨l,h⟩:∃l,HC g sh l)).uniq h
theorem Ry.ex{g:List (List Int)}{sh:List Bool}(v:Nat):∃x,Ry g sh v x:=by
 have key:∀n y,y<=n->IL g sh v y->IL g sh y v->∃x,Ry g sh v x:=by
   intro n
   induction n with
   | zero=>intro y hy h1 h2;exact ⟨(y:Int),y,rfl,h1,h2,λ z _ _=>by omega⟩
   | succ n ih=>
     intro y hy h1 h2;by_cases hz:∃z,z<y/\IL g sh v z/\IL g sh z v
     . obtain ⟨z,h3,h4,h5⟩:=hz;exact ih z (by omega) h4 h5
     . refine ⟨(y:Int),y,rfl,h1,h2,λ z h3 h4=>?_⟩;rcases Nat.lt_or_ge z y with h5 | h5
       . exact absurd ⟨z,h5,h3,h4⟩ hz
       . exact h5
 exact key v v (Ai _) (.refl v) (.refl v)
theorem UX{α:Type}(f:Nat->α)(n v:Nat)(hv:v<n)(d:α):((List.range n).map f).getD v d=f v:=by simp[List.getD,hv]
theorem HC.ex(g:List (List Int))(sh:List Bool):∃l,HC g sh l:=by
 refine ⟨(List.range g.length).map λ v=>if sh.getD v false=true then -1 else Classical.choose (Ry.ex (g:=g) (sh:=sh) v),by simp,λ v hv=>?_⟩;rw[UX _ _ _ hv];have hs:=Classical.choose_spec (Ry.ex (g:=g) (sh:=sh) v);constructor
 . intro h;rw[if_neg (by rw[h];decide)];obtain ⟨y,hy,_⟩:=id hs;exact ⟨by rw[hy];omega,hs⟩
 . intro h;rw[if_pos h]
theorem QP(g:List (List Int))(sh:List Bool):HC g sh (FH g sh):=by
 obtain ⟨l,h⟩:=HC.ex g sh;rw[QQ h];exact h
def JC(g:List (List Int))(sh:List Bool):Option (List Int×Int):=
 if ∀r∈g,r.length<=2000000 then (Fc g sh).map λ e=>if e=0 then (FH g sh,0) else ([],e) else none
theorem Abb(g:List (List Int))(sh:List Bool)(r:List Int×Int)(hr:JC g sh=some r):
   BZ prog 67 [.p (.sl (Cr g)),.p (.sl (CT sh))] [] λ h d=>h=[]/\d= .Dg [.p (.sl (BX r.1)),.p (.int .i64 r.2)]:=by
 unfold JC at hr;split at hr
 case isFalse=>cases hr
 rename_i CS;cases hc:Fc g sh with
 | none=>rw[hc] at hr;cases hr
 | some e=>
   rw[hc] at hr;simp only[Bn,Al] at hr;subst hr;by_cases he:e=0
   . subst he;refine (Aeb g sh CS hc).mono ?_;rintro h d ⟨l,hl,rfl,rfl⟩;rw[if_pos rfl,QQ hl];exact ⟨rfl,rfl⟩
   . rw[if_neg he];refine (Aed g sh e he hc).mono ?_;rintro h d ⟨rfl,rfl⟩;exact ⟨rfl,rfl⟩
theorem F3(n:Nat)(b:Bool):(CT (List.replicate n b)).take n=CT (List.replicate n b):=by rw[AL];simp[CT]
structure KQ where (LF:Int) (N2:List Int) (Co:Int) (cap:Int)
def Ty(s:List UInt8):Option (List Ln×Int×Int):=some (Dp s)
theorem Aah(s:List UInt8)(r:List Ln×Int×Int)(h:Ty s=some r):BZ prog 29 [.p (.str s)] [] λ h d=>h=[]/\d= .Dg [.p (.sl (GA r.1)),.p (.int .i64 r.2.1),.p (.int .i64 r.2.2)]:=by cases h;exact Aei s
open Classical in noncomputable def lParse_v (l:List Ln):Option (List Dc×Int×Int):=if l.length<=10000000/\∀x∈l,x.fs.length<=10000000 then some (parseV l []) else none
theorem Aag(l:List Ln)(r:List Dc×Int×Int)(h:lParse_v l=some r):BZ prog 30 [.p (.sl (GA l))] [] λ h d=>h=[]/\d= .Dg [.p (.sl (EV r.1)),.p (.int .i64 r.2.1),.p (.int .i64 r.2.2)]:=by unfold lParse_v at h;split at h<;>cases h;rename_i hs;exact Ae4 l hs.1 hs.2
open Classical in noncomputable def lBuild_v (d:List Dc):Option (Nt×Int×Int):=if smallD d then some (nbuildV d) else none
theorem Aaj(d:List Dc)(r:Nt×Int×Int)(h:lBuild_v d=some r):BZ prog 31 [.p (.sl (EV d))] [] λ h q=>h=[]/\q= .Dg [.agg [.p (.sl (C2 r.1.blocks)),.p (.sl (Cr r.1.next)),.p (.sl (C1 r.1.spurs)),.p (.sl (BX r.1.B0)),.p (.int .i64 r.1.cq),.p (.int .i64 r.1.ca),.p (.int .i64 r.1.cd),.p (.int .i64 r.1.cp)],.p (.int .i64 r.2.1),.p (.int .i64 r.2.2)]:=by unfold lBuild_v at h;split at h<;>cases h;rename_i hs;exact Aea d hs
def I3(a0:Nt):Int×Int->Option ((Int×Int)⊕((Int×Int)))
 | (v11,v12)=>cond (decide (v12<((a0.spurs.length:Nat):Int))) (Option.bind (CE a0.spurs v12) λ s6=>cond s6.CA (some (Sum.inl ((IntKind.i64.wrap (v11+s6.Co)),(IntKind.i64.wrap (v12+1))))) (some (Sum.inl (v11,(IntKind.i64.wrap (v12+1)))))) (some (Sum.inr (v11,v12)))
def Mj(a0:Nt):Option (KQ×Int):=
 Option.bind (E3 (⟨a0.blocks,a0.next,a0.spurs,a0.B0,a0.cq,a0.ca,a0.cd,a0.cp⟩:Nt)) λ x1=>cond x1 (cond (decide (a0.next.length<10000000)) (Option.bind (My a0.next (List.replicate a0.next.length false)) λ (x5,x6,x7)=>Option.bind (Cv (I3 a0) (0,0)) (λ (v25,v26)=>cond (decide (0<x5)) (some ((⟨x5,x6,v25,(if (IntKind.i64.wrap (x5 - 1))<v25 then (IntKind.i64.wrap (x5 - 1)) else v25)⟩:KQ),0)) (some ((⟨x5,x6,v25,v25⟩:KQ),0)))) none) (some ((⟨0,[],0,0⟩:KQ),20))
theorem Tz(a0:Nt)(r:KQ×Int)(hr:Mj a0=some r):
   BZ prog 18 [.agg [.p (.sl (C2 a0.blocks)),.p (.sl (Cr a0.next)),.p (.sl (C1 a0.spurs)),.p (.sl (BX a0.B0)),.p (.int .i64 a0.cq),.p (.int .i64 a0.ca),.p (.int .i64 a0.cd),.p (.int .i64 a0.cp)]] [] λ h d=>h=[]/\d= .Dg [.agg [.p (.int .i64 r.1.LF),.p (.sl (BX r.1.N2)),.p (.int .i64 r.1.Co),.p (.int .i64 r.1.cap)],.p (.int .i64 r.2)]:=by
 refine B1 func18 rfl An4 (by simp[Tryz.f18]) ?_;unfold Mj at hr;obtain ⟨x1,g2,hr⟩:=bE hr;try simp only[go_sem]
 refine Cq (Kp (⟨a0.blocks,a0.next,a0.spurs,a0.B0,a0.cq,a0.ca,a0.cd,a0.cp⟩:Nt) _ g2) ?_;cases c3:x1
 . simp only[c3,Aj] at hr;cases hr;(try simp only[go_sem,c3]);all_goals ((try refine BY ?_);(try simp only[go_sem,c3]);try first | rfl | exact ⟨rfl,rfl⟩ | (simp;done))
 simp only[c3,Ak] at hr;try simp only[go_sem,c3]
 refine CH mixed (p:=[(0,0),(1,0),(2,0),(3,0),(4,0),(5,1),(6,2),(7,0),(8,0),(9,0),(10,0),(11,0),(12,4),(13,4),(14,4)]) (by kernel_rfl) (by simp[C8,get]) ?_;obtain ⟨c4,hr⟩:=gE hr;try simp only[go_sem]
 refine ⟨by have:=Ad c4;omega,?_⟩;obtain ⟨⟨x5,x6,x7⟩,g8,hr⟩:=bE hr;try simp only[go_sem,F3]
 refine Gq (Aaz a0.next (List.replicate a0.next.length false) _ g8) ?_;obtain ⟨e16,g17,hr⟩:=bE hr;try simp only[go_sem]
 refine CQ g17 (λ q:Int×Int=>⟨[(2,.ptr 2 0),(4,.ptr 4 0),(25,.p (.sl (C1 a0.spurs))),(26,.p (.int .i64 ((a0.spurs.length:Nat):Int))),(27,.p (.int .i64 q.2))],[(2,.box [.p (.int .i64 0),.cl [],.p (.int .i64 0),.p (.int .i64 0)]),(4,.box [.p (.int .i64 x5),.p (.sl (BX x6)),.p (.int .i64 q.1),.p (.int .i64 0)])],54⟩) ((Wk.forget (by simp[ZF,ZE,F3,c3]))) ?_;rintro ⟨v11,v12⟩ m15 Q9 Ax6;rw[I3.eq_1] at Q9;cases JG:decide (v12<((a0.spurs.length:Nat):Int))
 . simp only[JG,Aj] at Q9;simp only[Aa,B2] at Q9;cases Q9;(try dsimp only at hr);cases SG:decide (0<x5)
   . simp only[SG,Aj] at hr;cases hr;(try simp only[go_sem,JG,SG]);all_goals ((try refine BY ?_);(try simp only[go_sem,JG,SG]);try first | rfl | exact ⟨rfl,rfl⟩ | (simp;done))
   simp only[SG,Ak] at hr;cases hr;(try simp only[go_sem,JG,SG]);all_goals ((try refine BY ?_);(try simp only[go_sem,JG,SG]);try first | rfl | exact ⟨rfl,rfl⟩ | (simp;done))
 simp only[JG,Ak] at Q9;obtain ⟨s6,g21,Q9⟩:=bK Q9;have f22:=B9 g21;have f23:(C1 a0.spurs).getD (Int.toNat v12) []=[(.str s6.name),(.bool s6.CA),(.int .i64 s6.HW),(.int .i64 s6.out),(.int .i64 s6.Co),(.int .i64 s6.base)]:=Ca _ g21;cases k7:s6.CA
 . simp only[k7,Aj] at Q9;simp only[Aa,B4] at Q9;(try simp only[go_sem,JG,f22,f23,k7]);exact Ax6 (v11,(IntKind.i64.wrap (v12+1))) _ Q9 ((Wk.forget (by simp[ZF,ZE,F3,c3,k7])))
 simp only[k7,Ak] at Q9;simp only[Aa,B4] at Q9;try simp only[go_sem,JG,f22,f23,k7]
 exact Ax6 ((IntKind.i64.wrap (v11+s6.Co)),(IntKind.i64.wrap (v12+1))) _ Q9 ((Wk.forget (by simp[ZF,ZE,F3,c3,k7])))
def I4(x2:List Int):Int->Option ((Int)⊕(Int⊕Bool))
 | v6=>cond (decide (v6<((x2.length:Nat):Int))) (Option.bind (CE x2 v6) λ Qn=>cond (decide (Qn=0)) (some (Sum.inl (IntKind.i64.wrap (v6+1)))) (some (Sum.inr (.inr ((true:Bool)))))) (some (Sum.inr (.inl v6)))
def Mk(a0:Nt):Option (Bool):=
 cond (decide (a0.next.length<10000000)) (Option.bind (JC a0.next (List.replicate a0.next.length false)) λ (x2,x3)=>Option.bind (Cv (I4 x2) 0) (λ | .inl v18=>some false | .inr (r19)=>some r19)) none
theorem Aak(a0:Nt)(r:Bool)(hr:Mk a0=some r):
   BZ prog 32 [.agg [.p (.sl (C2 a0.blocks)),.p (.sl (Cr a0.next)),.p (.sl (C1 a0.spurs)),.p (.sl (BX a0.B0)),.p (.int .i64 a0.cq),.p (.int .i64 a0.ca),.p (.int .i64 a0.cd),.p (.int .i64 a0.cp)]] [] λ h d=>h=[]/\d= .p (.bool r):=by
 refine B1 func32 rfl Amr (by simp[Tryz.f32]) ?_;unfold Mk at hr;try simp only[go_sem]
 refine CH mixed (p:=[(0,0),(1,0),(2,0),(3,0),(4,0),(5,1),(6,2),(7,0),(8,0),(9,0),(10,0),(11,0)]) (by kernel_rfl) (by simp[C8,get]) ?_;obtain ⟨c1,hr⟩:=gE hr;try simp only[go_sem]
 refine ⟨by have:=Ad c1;omega,?_⟩;obtain ⟨⟨x2,x3⟩,g4,hr⟩:=bE hr;try simp only[go_sem,F3]
 refine Gq (Abb a0.next (List.replicate a0.next.length false) _ g4) ?_;obtain ⟨e10,g11,hr⟩:=bE hr;try simp only[go_sem]
 refine CQ g11 (λ q:Int=>⟨[(17,.p (.sl (BX x2))),(18,.p (.int .i64 ((x2.length:Nat):Int))),(19,.p (.int .i64 q))],[],26⟩) ((Wk.forget (by simp[ZF,ZE,F3]))) ?_;rintro v6 m9 hh7 ih8;rw[I4.eq_1] at hh7;cases c12:decide (v6<((x2.length:Nat):Int))
 . simp only[c12,Aj] at hh7;simp only[Aa,B2] at hh7;cases hh7;(try dsimp only at hr);cases hr;(try simp only[go_sem,c12]);all_goals ((try refine BY ?_);(try simp only[go_sem,c12]);try first | rfl | exact ⟨rfl,rfl⟩ | (simp;done))
 simp only[c12,Ak] at hh7;obtain ⟨Qn,g14,hh7⟩:=bK hh7;have f15:=B9 g14;have f16:(BX x2).getD (Int.toNat v6) []=[(.int .i64 Qn)]:=Ca _ g14;cases ML:decide (Qn=0)
 . simp only[ML,Aj] at hh7;simp only[Aa,B2] at hh7;cases hh7;(try dsimp only at hr);cases hr;(try simp only[go_sem,c12,f15,f16,ML]);all_goals ((try refine BY ?_);(try simp only[go_sem,c12,f15,f16,ML]);try first | rfl | exact ⟨rfl,rfl⟩ | (simp;done))
 simp only[ML,Ak] at hh7;simp only[Aa,B4] at hh7;try simp only[go_sem,c12,f15,f16,ML]
 exact ih8 (IntKind.i64.wrap (v6+1)) _ hh7 ((Wk.forget (by simp[ZF,ZE,F3])))
def IT(a0:List UInt8):Option (Nt×KQ×Int×Int):=
 Option.bind (Ty a0) λ (x1,x2,x3)=>cond (decide (x3=0)) (Option.bind (lParse_v x1) λ (x6,x7,x8)=>cond (decide (x8=0)) (Option.bind (lBuild_v x6) λ (DI,x12,Qn)=>cond (decide (Qn=0)) (Option.bind (Mj (⟨DI.blocks,DI.next,DI.spurs,DI.B0,DI.cq,DI.ca,DI.cd,DI.cp⟩:Nt)) λ (Qm,Ym)=>Option.bind (Mk (⟨DI.blocks,DI.next,DI.spurs,DI.B0,DI.cq,DI.ca,DI.cd,DI.cp⟩:Nt)) λ Yl=>cond Yl (some ((⟨[],[],[],[],0,0,0,0⟩:Nt),(⟨0,[],0,0⟩:KQ),x12,17)) (cond (decide (Qm.cap<((DI.B0.length:Nat):Int))) (some ((⟨[],[],[],[],0,0,0,0⟩:Nt),(⟨0,[],0,0⟩:KQ),x12,18)) (some ((⟨DI.blocks,DI.next,DI.spurs,DI.B0,DI.cq,DI.ca,DI.cd,DI.cp⟩:Nt),(⟨Qm.LF,Qm.N2,Qm.Co,Qm.cap⟩:KQ),0,Ym)))) (some ((⟨[],[],[],[],0,0,0,0⟩:Nt),(⟨0,[],0,0⟩:KQ),x12,Qn))) (some ((⟨[],[],[],[],0,0,0,0⟩:Nt),(⟨0,[],0,0⟩:KQ),x7,x8))) (some ((⟨[],[],[],[],0,0,0,0⟩:Nt),(⟨0,[],0,0⟩:KQ),x2,x3))
theorem QW(a0:List UInt8)(r:Nt×KQ×Int×Int)(hr:IT a0=some r):
   BZ prog 10 [.p (.str a0)] [] λ h d=>h=[]/\d= .Dg [.agg [.p (.sl (C2 r.1.blocks)),.p (.sl (Cr r.1.next)),.p (.sl (C1 r.1.spurs)),.p (.sl (BX r.1.B0)),.p (.int .i64 r.1.cq),.p (.int .i64 r.1.ca),.p (.int .i64 r.1.cd),.p (.int .i64 r.1.cp)],.agg [.p (.int .i64 r.2.1.LF),.p (.sl (BX r.2.1.N2)),.p (.int .i64 r.2.1.Co),.p (.int .i64 r.2.1.cap)],.p (.int .i64 r.2.2.1),.p (.int .i64 r.2.2.2)]:=by
 refine B1 func10 rfl An8 (by simp[Tryz.f10]) ?_;unfold IT at hr;try simp only[go_sem]
 refine Ad0 1 ?_;obtain ⟨⟨x1,x2,x3⟩,g4,hr⟩:=bE hr;try simp only[go_sem]
 refine Cq (Aah a0 _ g4) ?_;cases c5:decide (x3=0)
 . simp only[c5,Aj] at hr;(try simp only[go_sem,c5]);refine n8 rfl ?_;cases hr;(try simp only[go_sem]);all_goals ((try refine BY ?_);(try simp only[go_sem]);try first | rfl | exact ⟨rfl,rfl⟩ | (simp;done))
 simp only[c5,Ak] at hr;obtain ⟨⟨x6,x7,x8⟩,g9,hr⟩:=bE hr;try simp only[go_sem,c5]
 refine Cq (Aag x1 _ g9) ?_;cases Kf:decide (x8=0)
 . simp only[Kf,Aj] at hr;(try simp only[go_sem,Kf]);refine n8 rfl ?_;cases hr;(try simp only[go_sem]);all_goals ((try refine BY ?_);(try simp only[go_sem]);try first | rfl | exact ⟨rfl,rfl⟩ | (simp;done))
 simp only[Kf,Ak] at hr;obtain ⟨⟨DI,x12,Qn⟩,g14,hr⟩:=bE hr;try simp only[go_sem,Kf]
 refine Cq (Aaj x6 _ g14) ?_;cases JS:decide (Qn=0)
 . simp only[JS,Aj] at hr;(try simp only[go_sem,JS]);refine n8 rfl ?_;cases hr;(try simp only[go_sem]);all_goals ((try refine BY ?_);(try simp only[go_sem]);try first | rfl | exact ⟨rfl,rfl⟩ | (simp;done))
 simp only[JS,Ak] at hr;obtain ⟨⟨Qm,Ym⟩,g18,hr⟩:=bE hr;try simp only[go_sem,JS]
 refine Cq (Tz (⟨DI.blocks,DI.next,DI.spurs,DI.B0,DI.cq,DI.ca,DI.cd,DI.cp⟩:Nt) _ g18) ?_;obtain ⟨Yl,g20,hr⟩:=bE hr;try simp only[go_sem]
 refine Cq (Aak (⟨DI.blocks,DI.next,DI.spurs,DI.B0,DI.cq,DI.ca,DI.cd,DI.cp⟩:Nt) _ g20) ?_;cases c21:Yl
 . simp only[c21,Aj] at hr;cases SF:decide (Qm.cap<((DI.B0.length:Nat):Int))
   . simp only[SF,Aj] at hr;(try simp only[go_sem,c21,SF]);refine Dm [(7,.box [.p (.sl (C2 DI.blocks)),.p (.sl (Cr DI.next)),.p (.sl (C1 DI.spurs)),.p (.sl (BX DI.B0)),.p (.int .i64 DI.cq),.p (.int .i64 DI.ca),.p (.int .i64 DI.cd),.p (.int .i64 DI.cp)]),(8,.box [.p (.int .i64 Qm.LF),.p (.sl (BX Qm.N2)),.p (.int .i64 Qm.Co),.p (.int .i64 Qm.cap)])] mixed (p:=[(0,0),(1,0),(2,0),(3,2),(4,2),(5,0),(6,0)]) (by kernel_rfl) (by simp[C8,get]) ?_;cases hr;(try simp only[go_sem]);all_goals ((try refine BY ?_);(try simp only[go_sem]);try first | rfl | exact ⟨rfl,rfl⟩ | (simp;done))
   simp only[SF,Ak] at hr;(try simp only[go_sem,c21,SF]);refine n8 rfl ?_;cases hr;(try simp only[go_sem]);all_goals ((try refine BY ?_);(try simp only[go_sem]);try first | rfl | exact ⟨rfl,rfl⟩ | (simp;done))
 simp only[c21,Ak] at hr;try simp only[go_sem,c21]
 refine n8 rfl ?_;cases hr;try simp only[go_sem]
 all_goals ((try refine BY ?_);(try simp only[go_sem]);try first | rfl | exact ⟨rfl,rfl⟩ | (simp;done))
def Iu:List C3->Int
 | []=>0
 | s::r=>(if s.CA=true then s.Co else 0)+Iu r
theorem RE(l:List C3)(s:C3):Iu (l++[s])=Iu l+(if s.CA=true then s.Co else 0):=by
 induction l with
 | nil=>simp[Iu]
 | cons x r ih=>simp only[AT,Iu,ih];omega
theorem S0{nb:Nat}{l:List C3}(h:DV nb l):∀k,k<=l.length->0<=Iu (l.take k)/\Iu (l.take k)<=4*k
 | 0,_=>by simp[Iu]
 | k+1,hk=>by
   have h1:=S0 h k (by omega);obtain ⟨_,_,_,_,h5,h6,_⟩:=h k (by omega);rw[CB l k Cm (by omega),RE];split<;>omega
def G3(n:Nt):List Bool:=List.replicate n.next.length false
def Rq(n:Nt):KQ:=
 let w:=J8 n.next (G3 n)
 let s:=Iu n.spurs
 ⟨((w.length:Nat):Int),w,s,if 0<w.length/\((w.length:Nat):Int) - 1<s then ((w.length:Nat):Int) - 1 else s⟩
theorem TW{g:List (List Int)}(hg:Eg g)(sh:List Bool):(J8 g sh).length<=25:=by
 have:=LD hg sh g.length (Ai _);rw[AL (by simp)] at this;exact this
theorem VW(n:Nt)(hs:Qw n):Mj n=some (if validN n then (Rq n,0) else (⟨0,[],0,0⟩,20)):=by
 unfold Mj;have hv:=YY n hs;rw[show (⟨n.blocks,n.next,n.spurs,n.B0,n.cq,n.ca,n.cd,n.cp⟩:Nt)=n from rfl,hv];simp only[Aa];by_cases hn:validN n
 . obtain ⟨hg,_,hl⟩:=D0 hn;have FT:DV n.blocks.length n.spurs:=hn.2.2.2.2.2.1;have h6:n.spurs.length<=6:=hn.2.1;have Ra:=hg.1;rw[if_pos hn,Ag hn];have c1:decide (n.next.length<10000000)=true:=Ag (by omega);have hsl:Cv (I3 n) (0,((0:Nat):Int))=some (Iu n.spurs,((n.spurs.length:Nat):Int)):=by
     refine C6 (step:=I3 n) n.spurs.length (λ k=>(Iu (n.spurs.take k),((k:Nat):Int))) _ (λ k hk=>?_) ?_
     . (try dsimp only);have hr:=S0 FT k (by omega);obtain ⟨_,_,_,_,h5,h6,_⟩:=FT k hk;rw[I3.eq_1];simp only[Et hk,Ak,Ch _ _ Cm hk,Aa];rw[CB n.spurs k Cm hk,RE,Cu (by omega)];cases hd:(n.spurs.getD k Cm).CA
       . simp only[Aj];simp
       . simp only[Ak,AM];rw[B3 (by omega) (by omega)]
     . (try dsimp only);rw[I3.eq_1];simp only[E4,Aj];rw[At]
   simp only[Ak,c1];rw[Afc hg (by simp)];simp only[Aa];rw[show ((0:Int),(0:Int))=((0:Int),((0:Nat):Int)) from rfl,hsl];simp only[Aa];have hgl:=TW hg (List.replicate n.next.length false);unfold Rq G3;dsimp only;by_cases c2:0<(J8 n.next (List.replicate n.next.length false)).length
   . rw[Ag (show (0:Int)<(((J8 n.next (List.replicate n.next.length false)).length:Nat):Int) by omega)];simp only[Ak];rw[B3 (by omega) (by omega)];by_cases c3:(((J8 n.next (List.replicate n.next.length false)).length:Nat):Int) - 1<Iu n.spurs
     . rw[if_pos c3,if_pos ⟨c2,c3⟩]
     . rw[if_neg c3,if_neg (λ h=>c3 h.2)]
   . rw[Ah (show ¬(0:Int)<(((J8 n.next (List.replicate n.next.length false)).length:Nat):Int) by omega)];simp only[Aj];rw[if_neg (λ h=>c2 h.1)]
 . rw[if_neg hn,Ah hn];simp only[Aj]
def OY(r:List UInt8):List UInt8:=[98,108,111,99,107,32,97,32,48,32,48,10,98,108,111,99,107,32,98,32,49,32,48,32,35,32,116,104,101,32,111,116,104,101,114,32,111,110,101,10,108,97,110,101,32,97,32,98,32,97,10,100,101,112,111,116,32,100,32,97,32,98,32,50,10]++r
def PW:List UInt8:=[114,111,98,111,116,32,100,32,50,10]
def PV:List UInt8:=[114,111,98,111,116,32,100,32,49,10,114,111,98,111,116,32,100,32,50,10]
def exN(l:List Int):Nt:=⟨[⟨[97],0,0⟩,⟨[98],1,0⟩],[[1],[0]],[⟨[100],true,0,1,2,2⟩],l,4,2,1,8⟩
theorem Bcq:(Dp (OY PW)).2=(0,0):=by kernel_rfl
theorem Bcp:(Dp (OY PV)).2=(0,0):=by kernel_rfl
theorem Bco:(parseV (Dp (OY PW)).1 []).2=(0,0):=by kernel_rfl
theorem Bcn:(parseV (Dp (OY PV)).1 []).2=(0,0):=by kernel_rfl
theorem Bcu:nbuildV (parseV (Dp (OY PW)).1 []).1=(exN [3],0,0):=by kernel_rfl
theorem Bct:nbuildV (parseV (Dp (OY PV)).1 []).1=(exN [2,3],0,0):=by kernel_rfl
theorem Bcm:validN (exN [3]):=by decide
theorem Bcl:validN (exN [2,3]):=by decide
theorem Acq{g:List (List Int)}(hg:Eg g){v:Nat}(hv:v<g.length):UG g.length v (g.getD v []):=λ k hk=>by
 have h:=hg.2 v hv k hk;unfold Ji at h;unfold okE;have h1:decide ((g.getD v []).getD k 0<0)=false:=Ah (by omega);have h2:decide ((g.length:Int)<=(g.getD v []).getD k 0)=false:=Ah (by omega);have h3:decide ((g.getD v []).getD k 0=(v:Int))=false:=Ah (by omega);rw[h1,h2,h3];by_cases c:k=0
 . rw[Ag c];rfl
 . have h4:decide ((g.getD v []).getD k 0<=(g.getD v []).getD (k - 1) 0)=false:=Ah (by have:=h.2.2.2 (by omega);omega);rw[h4];simp
theorem Aho{g:List (List Int)}(hg:Eg g){sh:List Bool}(Jp:sh.length=g.length):JC g sh=some (FH g sh,0):=by
 have CS:∀v,v<g.length->(g.getD v []).length<=2000000:=λ v hv=>by have:=M3 hg hv;omega
 have DK:∀r∈g,r.length<=2000000:=λ r hr=>by
   obtain ⟨u,hu,rfl⟩:=AA.1 hr;have e1:g.getD u []=g[u]:=getD_eq hu;have:=CS u hu;rw[e1] at this;exact this
 have hc:Fc g sh=some 0:=by
   rw[Ru g sh CS];have h1:=hg.1;have h2:∀v,v<g.length->UG g.length v (g.getD v []):=λ v hv=>Acq hg hv;rw[if_neg (by omega),if_pos (λ v hv=>Ag (h2 v hv)),if_pos Jp]
 unfold JC;rw[if_pos DK,hc];rfl
theorem Aek(n:Nt)(hg:Eg n.next):Mk n=some (!(FH n.next (G3 n)).all λ x=>decide (x=0)):=by
 have hn:=QP n.next (G3 n)
 have h1:=hg.1;unfold Mk;have c1:decide (n.next.length<10000000)=true:=Ag (by omega);simp only[c1,Ak];rw[Aho hg (by simp)];simp only[Aa]
 change (Option.bind (Cv (I4 (FH n.next (G3 n))) 0) _)=_
 have hl:(FH n.next (G3 n)).length<=24:=by rw[hn.1];exact h1
 generalize FH n.next (G3 n)=l at hl
 have:=E5 (step:=I4 l) l.length (λ k=>((k:Nat):Int)) (Sum.inl ((l.length:Nat):Int)) (Sum.inr true) (λ k=>decide (l.getD k 0=0)) (λ k hk _=>?_) (λ _=>?_)
 . rw[show ((0:Nat):Int)=0 from rfl] at this;rw[this];by_cases c:∀j,j<l.length->decide (l.getD j 0=0)=true
   . rw[if_pos c];have:(l.all λ x=>decide (x=0))=true:=by
       rw[AB];intro x hx;obtain ⟨j,hj,rfl⟩:=AA.1 hx;have e1:l.getD j 0=l[j]:=getD_eq hj;rw[<-e1];exact c j hj
     rw[this];rfl
   . rw[if_neg c];have:(l.all λ x=>decide (x=0))=false:=by
       cases h:l.all λ x=>decide (x=0)
       . rfl
       . rw[AB] at h;refine absurd (λ j hj=>?_) c;have e1:l.getD j 0=l[j]:=getD_eq hj;rw[e1];exact h _ (AS hj)
     rw[this];rfl
 . rw[I4.eq_1];simp only[Et hk,Ak,Ch _ _ 0 hk,Aa];rw[Cu (by omega)];by_cases c:l.getD k 0=0
   . simp only[Ag c,Ak,AM]
   . simp only[Ah c,Aj];rfl
 . rw[I4.eq_1];simp only[E4,Aj]
theorem Ayz:FH [[1],[0]] [false,false]=[0,0]:=by
 have h01:IL [[1],[0]] [false,false] 0 1:= .tail (.refl 0) ⟨by simp,rfl⟩;have JI:IL [[1],[0]] [false,false] 1 0:= .tail (.refl 1) ⟨by simp,rfl⟩;refine QQ ⟨rfl,λ v hv=>?_⟩;have RX:v=0∨v=1:=by simp only[Ar,Az] at hv;omega
 rcases RX with rfl | rfl
 . exact ⟨λ _=>⟨by decide,0,rfl,.refl 0,.refl 0,λ z _ _=>AE z⟩,λ h=>by cases h⟩
 . exact ⟨λ _=>⟨by decide,0,rfl,JI,h01,λ z _ _=>AE z⟩,λ h=>by cases h⟩
theorem Ayy:((Dp (OY PW)).1.length<=100/\∀x∈(Dp (OY PW)).1,x.fs.length<=100):=by
 have h:(decide ((Dp (OY PW)).1.length<=100)&&(Dp (OY PW)).1.all λ x=>decide (x.fs.length<=100))=true:=by kernel_rfl
 rw[Ao,AB] at h;exact ⟨Ad h.1,λ x hx=>Ad (h.2 x hx)⟩
theorem Ayx:((Dp (OY PV)).1.length<=100/\∀x∈(Dp (OY PV)).1,x.fs.length<=100):=by
 have h:(decide ((Dp (OY PV)).1.length<=100)&&(Dp (OY PV)).1.all λ x=>decide (x.fs.length<=100))=true:=by kernel_rfl
 rw[Ao,AB] at h;exact ⟨Ad h.1,λ x hx=>Ad (h.2 x hx)⟩
theorem Bcs:smallD (parseV (Dp (OY PW)).1 []).1:=by
 have h:(decide ((parseV (Dp (OY PW)).1 []).1.length<=100)&&(parseV (Dp (OY PW)).1 []).1.all λ x=>decide (x.names.length<=100)&&decide (x.B7.length<=100))=true:=by kernel_rfl
 simp only[Ao,AB,Aq] at h;exact ⟨by omega,λ x hx=>by have:=h.2 x hx;omega⟩
theorem Bcr:smallD (parseV (Dp (OY PV)).1 []).1:=by
 have h:(decide ((parseV (Dp (OY PV)).1 []).1.length<=100)&&(parseV (Dp (OY PV)).1 []).1.all λ x=>decide (x.names.length<=100)&&decide (x.B7.length<=100))=true:=by kernel_rfl
 simp only[Ao,AB,Aq] at h;exact ⟨by omega,λ x hx=>by have:=h.2 x hx;omega⟩
theorem exC(l:List Int):Rq (exN l)=⟨2,[0,1],2,1⟩:=by
 have h:Rq (exN [])=⟨2,[0,1],2,1⟩:=by kernel_rfl
 exact h
theorem Tx{s:List UInt8}{ls:List Ln}{d:List Dc}{n:Nt}(h1:Dp s=(ls,0,0))(hl:ls.length<=100000/\∀x∈ls,x.fs.length<=100000)(h2:parseV ls []=(d,0,0))(hd:smallD d)(h3:nbuildV d=(n,0,0))(hv:validN n):
   IT s=some (if ((FH n.next (G3 n)).all λ x=>decide (x=0))=false then (⟨[],[],[],[],0,0,0,0⟩,⟨0,[],0,0⟩,0,17) else if (Rq n).cap<((n.B0.length:Nat):Int) then (⟨[],[],[],[],0,0,0,0⟩,⟨0,[],0,0⟩,0,18) else (n,Rq n,0,0)):=by
 have hs:=I8 hv;have hg:=(D0 hv).1;unfold IT Ty;rw[h1];simp only[Aa,decide_true,Ak];have hp:lParse_v ls=some (d,0,0):=by
   unfold lParse_v;rw[if_pos ⟨by omega,λ x hx=>by have:=hl.2 x hx;omega⟩,h2]
 have hb:lBuild_v d=some (n,0,0):=by
   unfold lBuild_v;rw[if_pos hd,h3]
 rw[hp];simp only[Aa,decide_true,Ak];rw[hb];simp only[Aa,decide_true,Ak];rw[show (⟨n.blocks,n.next,n.spurs,n.B0,n.cq,n.ca,n.cd,n.cp⟩:Nt)=n from rfl,VW n hs,if_pos hv,Aek n hg];simp only[Aa];cases (FH n.next (G3 n)).all λ x=>decide (x=0)
 . simp
 . simp only[Bool.not_true,Aj];rw[if_neg (by simp)];by_cases c:(Rq n).cap<((n.B0.length:Nat):Int)
   . rw[Ag c,if_pos c];rfl
   . rw[Ah c,if_neg c];rfl
theorem Ar5:IT (OY PW)=some (exN [3],⟨2,[0,1],2,1⟩,0,0):=by
 rw[Tx (ls:=(Dp (OY PW)).1) (d:=(parseV (Dp (OY PW)).1 []).1) (n:=exN [3]) (by rw[<-Bcq]) ⟨by have:=Ayy.1;omega,λ x hx=>by have:=Ayy.2 x hx;omega⟩ (by rw[<-Bco]) Bcs Bcu Bcm,exC];rw[show FH (exN [3]).next (G3 (exN [3]))=[0,0] from Ayz];rfl
theorem Ar4:IT (OY PV)=some (⟨[],[],[],[],0,0,0,0⟩,⟨0,[],0,0⟩,0,18):=by
 rw[Tx (ls:=(Dp (OY PV)).1) (d:=(parseV (Dp (OY PV)).1 []).1) (n:=exN [2,3]) (by rw[<-Bcp]) ⟨by have:=Ayx.1;omega,λ x hx=>by have:=Ayx.2 x hx;omega⟩ (by rw[<-Bcn]) Bcr Bct Bcl,exC];rw[show FH (exN [2,3]).next (G3 (exN [2,3]))=[0,0] from Ayz];rfl
structure Gok(g:List (List Int))(sh:List Bool):Prop where
 n24:g.length<=24
 shl:sh.length=g.length
 rng:∀v k,k<(g.getD v []).length->∃w:Nat,(g.getD v []).getD k 0=(w:Int)/\w<g.length
 rl:∀v,(g.getD v []).length<=100000
theorem Gok.mem{g:List (List Int)}{sh:List Bool}(h:Gok g sh){v:Nat}{y:Int}(hy:y∈g.getD v []):∃w:Nat,y=(w:Int)/\w<g.length:=by
 obtain ⟨k,hk,rfl⟩:=AA.1 hy;have:=h.rng v k hk;rwa[getD_eq hk] at this
def S3(sh:List Bool)(s:List Int×List Bool)(y:Int):List Int×List Bool:=
 if sh.getD y.toNat false=false/\s.2.getD y.toNat false=false then (s.1++[y],s.2.set y.toNat true) else s
structure At1(sh:List Bool)(row:List Int)(s s':List Int×List Bool):Prop where
 len:s'.2.length=s.2.length
 mono:∀w,s.2.getD w false=true->s'.2.getD w false=true
 new:∀w:Nat,s'.2.getD w false=true->s.2.getD w false=true∨((w:Int)∈row/\sh.getD w false=false/\(w:Int)∈s'.1)
 sub:∀x∈s.1,x∈s'.1
 add:∀x∈s'.1,x∈s.1∨∃w:Nat,x=(w:Int)/\s'.2.getD w false=true
 all:∀w:Nat,(w:Int)∈row->sh.getD w false=false->s'.2.getD w false=true
 j4:s'.1.length+s'.2.count false=s.1.length+s.2.count false
 tl:s'.1.length<=s.1.length+row.length
theorem W2(sh:List Bool):∀(row:List Int) (s:List Int×List Bool),(∀y∈row,∃w:Nat,y=(w:Int)/\w<s.2.length)->At1 sh row s (row.foldl (S3 sh) s)
 | [],s,_=>⟨rfl,λ _ h=>h,λ _ h=> .inl h,λ _ h=>h,λ _ h=> .inl h,(λ w h=>by cases h),rfl,Ai _⟩
 | y::row,s,hr=>by
   obtain ⟨w0,rfl,LA⟩:=hr y (List.mem_cons_self);have Acj:(S3 sh s (w0:Int)).2.length=s.2.length:=by unfold S3;split<;>simp
   have ih:=W2 sh row (S3 sh s (w0:Int)) (λ y hy=>by rw[Acj];exact hr y (List.mem_cons_of_mem _ hy));rw[Bo];by_cases hc:sh.getD w0 false=false/\s.2.getD w0 false=false
   . have e:S3 sh s (w0:Int)=(s.1++[(w0:Int)],s.2.set w0 true):=by unfold S3;rw[Ab,if_pos hc]
     have g0:∀w,(s.2.set w0 true).getD w false=if w=w0 then true else s.2.getD w false:=λ w=>E6 _ _ _ _ _ LA
     rw[e] at ih ⊢;refine ⟨by rw[ih.len];simp,λ w h=>ih.mono w (by rw[g0];split;rfl;exact h),λ w h=>?_,λ x hx=>ih.sub x (by simp[hx]),λ x hx=>?_,λ w hw ho=>?_,?_,?_⟩
     . rcases ih.new w h with h1 | ⟨h1,h2,h3⟩
       . simp only at h1;rw[g0] at h1;by_cases e1:w=w0
         . subst e1;exact .inr ⟨List.mem_cons_self,hc.1,ih.sub _ (by simp)⟩
         . rw[if_neg e1] at h1;exact .inl h1
       . exact .inr ⟨List.mem_cons_of_mem _ h1,h2,h3⟩
     . rcases ih.add x hx with h1 | h1
       . simp only[Av,Aw] at h1;rcases h1 with h1 | rfl
         . exact .inl h1
         . exact .inr ⟨w0,rfl,ih.mono w0 (by simp only;rw[g0,if_pos rfl])⟩
       . exact .inr h1
     . rcases AF.1 hw with h1 | h1
       . have:w=w0:=by omega
         subst this;exact ih.mono w (by simp only;rw[g0,if_pos rfl])
       . exact ih.all w h1 ho
     . rw[ih.j4];simp only[Au,Ar,Az];rw[List.count_set LA];have e2:s.2[w0]=false:=by have:=hc.2;rwa[getD_eq LA] at this
       rw[e2];have:0<s.2.count false:=List.count_pos_iff.2 (by rw[<-e2];exact AS LA);simp;omega
     . have:=ih.tl;simp only[Au,Ar,Az] at this ⊢;omega
   . have e:S3 sh s (w0:Int)=s:=by unfold S3;rw[Ab,if_neg hc]
     rw[e] at ih ⊢;refine ⟨ih.len,ih.mono,λ w h=>?_,ih.sub,ih.add,λ w hw ho=>?_,ih.j4,?_⟩
     . rcases ih.new w h with h1 | ⟨h1,h2,h3⟩
       . exact .inl h1
       . exact .inr ⟨List.mem_cons_of_mem _ h1,h2,h3⟩
     . rcases AF.1 hw with h1 | h1
       . have:w=w0:=by omega
         subst this;refine ih.mono w ?_;cases h9:s.2.getD w false with
         | true=>rfl
         | false=>exact absurd ⟨ho,h9⟩ hc
       . exact ih.all w h1 ho
     . have:=ih.tl;simp only[Ar];omega
structure SI(g:List (List Int))(sh:List Bool)(v:Nat)(t:List Int)(m:List Bool):Prop where
 mn:∀w,m.getD w false=true->w<g.length/\sh.getD w false=false/\IL g sh v w
 tm:∀x∈t,∃w:Nat,x=(w:Int)/\m.getD w false=true
 mv:m.getD v false=true
 cl:∀u,m.getD u false=true->(u:Int)∉t->∀w,Ed g sh u w->m.getD w false=true
 ml:g.length<=m.length
theorem SI.step{g:List (List Int)}{sh:List Bool}{v u:Nat}{t t1:List Int}{m:List Bool}(hg:Gok g sh)(h:SI g sh v t m)(hu:(u:Int)∈t)(h1:∀x∈t,x=(u:Int)∨x∈t1)(h2:∀x∈t1,x∈t):
   At1 sh (g.getD u []) (t1,m) ((g.getD u []).foldl (S3 sh) (t1,m))/\SI g sh v ((g.getD u []).foldl (S3 sh) (t1,m)).1 ((g.getD u []).foldl (S3 sh) (t1,m)).2:=by
 have hsc:=W2 sh (g.getD u []) (t1,m) (λ y hy=>by
   obtain ⟨w,e,hw⟩:=hg.mem hy;exact ⟨w,e,Nat.lt_of_lt_of_le hw h.ml⟩)
 generalize (g.getD u []).foldl (S3 sh) (t1,m)=s' at hsc ⊢;obtain ⟨w0,LA,hmu⟩:=h.tm _ hu;have Bb6:w0=u:=by omega
 subst Bb6;refine ⟨hsc,λ w hw=>?_,λ x hx=>?_,hsc.mono v h.mv,λ u2 LM hn w hw=>?_,by rw[hsc.len];exact h.ml⟩
 . rcases hsc.new w hw with h3 | ⟨h3,h4,_⟩
   . exact h.mn w h3
   . obtain ⟨w2,e,Ct⟩:=hg.mem h3;have:w2=w:=by omega
     subst this;exact ⟨Ct,h4,(h.mn _ hmu).2.2.tail ⟨h3,h4⟩⟩
 . rcases hsc.add x hx with h3 | h3
   . obtain ⟨w,e,hw⟩:=h.tm x (h2 x h3);exact ⟨w,e,hsc.mono w hw⟩
   . exact h3
 . rcases hsc.new u2 LM with h3 | ⟨_,_,h5⟩
   . by_cases LW:(u2:Int)∈t
     . rcases h1 _ LW with h4 | h4
       . have:u2=w0:=by omega
         subst this;exact hsc.all w hw.1 hw.2
       . exact absurd (hsc.sub _ h4) hn
     . exact hsc.mono w (h.cl u2 h3 LW w hw)
   . exact absurd h5 hn
theorem SI.done{g:List (List Int)}{sh:List Bool}{v:Nat}{m:List Bool}(h:SI g sh v [] m)(w:Nat):m.getD w false=true↔IL g sh v w:=by
 constructor
 . exact λ hw=>(h.mn w hw).2.2
 . intro hr
   induction hr with
   | refl=>exact h.mv
   | tail _ e ih=>exact h.cl _ ih (by simp) _ e
theorem SI.init{g:List (List Int)}{sh:List Bool}{v n:Nat}(hv:v<g.length)(hn:g.length<=n)(ho:sh.getD v false=false):SI g sh v [(v:Int)] ((List.replicate n false).set v true):=by
 have g0:∀w,((List.replicate n false).set v true).getD w false=if w=v then true else false:=λ w=>by
   rw[E6 _ _ _ _ _ (by simp;omega)];split
   . rfl
   . simp only[List.getD,Bb];split<;>rfl
 refine ⟨λ w hw=>?_,λ x hx=>?_,by rw[g0,if_pos rfl],λ u hu hn2=>?_,by simp;omega⟩
 . rw[g0] at hw;split at hw
   . rename_i e;subst e;exact ⟨hv,ho,.refl _⟩
   . cases hw
 . simp at hx;exact ⟨v,hx,by rw[g0,if_pos rfl]⟩
 . rw[g0] at hu;split at hu
   . rename_i e;subst e;exact absurd (by simp) hn2
   . cases hu
theorem Aj3(sh:List Bool)(row:List Int)(s:List Int×List Bool)(h:∀y∈row,∃w:Nat,y=(w:Int)/\w<s.2.length)(i:Nat):
   ((row.take i).foldl (S3 sh) s).2.length=s.2.length/\((row.take i).foldl (S3 sh) s).1.length<=s.1.length+row.length:=by
 have:=W2 sh (row.take i) s (λ y hy=>h y (BN hy));refine ⟨this.len,?_⟩;have h1:=this.tl;rw[Bi] at h1;omega
theorem Ab2{α β:Type}(f:β->α->β)(l:List α)(i:Nat)(s:β)(d:α)(h:i<l.length):(l.take (i+1)).foldl f s=f ((l.take i).foldl f s) (l.getD i d):=by
 rw[CB l i d h,List.foldl_append];rfl
theorem Alf(sh:List Bool)(row:List Int)(t:List Int)(m:List Bool)(hm:m.length=24)(Jp:sh.length<=24)(hr:∀y∈row,∃w:Nat,y=(w:Int)/\w<sh.length)(hb:t.length+row.length<1000000):
   Cv (I0 sh row) (t,m,0)=some ((row.foldl (S3 sh) (t,m)).1,(row.foldl (S3 sh) (t,m)).2,((row.length:Nat):Int)):=by
 have Kd:∀y∈row,∃w:Nat,y=(w:Int)/\w<(t,m).2.length:=λ y hy=>by
   obtain ⟨w,e,hw⟩:=hr y hy;exact ⟨w,e,by simp only;omega⟩
 have h:=C6 (step:=I0 sh row) row.length (λ i=>(((row.take i).foldl (S3 sh) (t,m)).1,((row.take i).foldl (S3 sh) (t,m)).2,((i:Nat):Int)))
   ((row.foldl (S3 sh) (t,m)).1,(row.foldl (S3 sh) (t,m)).2,((row.length:Nat):Int)) ?_ ?_
 . simpa using h
 . intro i hi;obtain ⟨l1,l2⟩:=Aj3 sh row (t,m) Kd i;have e1:=Ab2 (S3 sh) row i (t,m) 0 hi;rw[e1];generalize (row.take i).foldl (S3 sh) (t,m)=s at l1 l2 ⊢;obtain ⟨w,ew,hw⟩:=hr (row.getD i 0) (by rw[getD_eq hi];exact AS hi);rw[I0.eq_1,Et hi,Ak,Ch row i 0 hi,Aa,ew,Ch sh w false hw,Aa];have ei:Si 24 s.2 (w:Int)=some (s.2.getD w false):=by
     unfold Si;rw[if_pos (by rw[l1];exact hm),Ch s.2 w false (by simp only at l1;omega)]
   unfold S3;rw[Ab];cases c1:sh.getD w false
   . rw[Aj,ei,Aa];cases c2:s.2.getD w false
     . rw[Aj,Ag (by simp only at l2;omega),Ak,Cu (by omega)];simp
     . rw[Ak,Cu (by omega)];simp
   . rw[Ak,Cu (by omega)];simp
 . simp only[At];rw[I0.eq_1,E4,Aj]
theorem Ale{g:List (List Int)}{sh:List Bool}(hg:Gok g sh){v:Nat}(t:List Int)(m:List Bool)(hm:m.length=24)(h:SI g sh v t m)(hb:t.length+m.count false<=30):
   ∃m',Cv (IZ g sh) (t,m)=some ([],m')/\m'.length=24/\SI g sh v [] m':=by
 suffices key:∃e,Cv (IZ g sh) (t,m)=some e/\∃m',e=([],m')/\m'.length=24/\SI g sh v [] m' by
   obtain ⟨e,he,m',rfl,h1,h2⟩:=key;exact ⟨m',he,h1,h2⟩
 refine QT (step:=IZ g sh) (λ s=>s.2.length=24/\SI g sh v s.1 s.2/\s.1.length+s.2.count false<=30) (λ s=>s.1.length+s.2.count false) _ ?_ (t,m) ⟨hm,h,hb⟩;clear h hb hm t m;rintro ⟨t,m⟩ ⟨hm,h,hb⟩;simp only at hm h hb;rw[IZ.eq_1];rcases t.eq_nil_or_concat with rfl | ⟨t1,x,rfl⟩
 . exact ⟨_,rfl,m,rfl,hm,h⟩
 rw[List.concat_eq_append] at*;obtain ⟨u,rfl,hmu⟩:=h.tm x (by simp);have hl:(t1++[(u:Int)]).length=t1.length+1:=by simp
 have hu:=(h.mn u hmu).1;obtain ⟨hsc,hsi⟩:=h.step hg (t1:=t1) (u:=u) (by simp) (λ x hx=>by simp at hx;exact hx.symm) (λ x hx=>by simp[hx]);have ew:IntKind.i64.wrap (((t1.length+1:Nat):Int) - 1)=((t1.length:Nat):Int):=by
   rw[B3]<;>omega
 have Ra:(t1++[(u:Int)]).getD t1.length 0=(u:Int):=by simp[List.getD]
 have ht:(t1++[(u:Int)]).take t1.length=t1:=by simp
 have CS:=hg.rl u;simp only[hl] at hb;rw[hl,Ag (by omega),Ak,ew,Ch _ t1.length 0 (by rw[hl];omega),Aa,Ra,Ag (by omega),Ak,Ch g u [] hu,Aa,Ab,ht,
   Alf sh (g.getD u []) t1 m hm (by rw[hg.shl];exact hg.n24) (λ y hy=>by rw[hg.shl];exact hg.mem hy) (by omega),Aa]
 refine ⟨_,rfl,⟨by simp only;rw[hsc.len];exact hm,hsi,?_⟩,?_⟩
 . have:=hsc.j4;simp only at this ⊢;omega
 . have:=hsc.j4;simp only[hl] at this ⊢;omega
theorem Zz{g:List (List Int)}{sh:List Bool}(hg:Gok g sh)(v:Nat)(hv:v<g.length):∃m,Ii g sh (v:Int)=some m/\m.length=24/\∀w,m.getD w false=true↔sh.getD v false=false/\IL g sh v w:=by
 unfold Ii;rw[Ch sh v false (by rw[hg.shl];exact hv),Aa];have h24:=hg.n24;have r0:∀w,(List.replicate 24 false).getD w false=false:=λ w=>by simp only[List.getD,Bb];split<;>rfl
 cases c:sh.getD v false
 . have ei:Si 24 (List.replicate 24 false) (v:Int)=some false:=by
     unfold Si;rw[if_pos (by simp),Ch _ v false (by simp;omega),r0]
   rw[Aj,ei,Aa,Ab];obtain ⟨m',h1,h2,h3⟩:=Ale hg [(v:Int)] ((List.replicate 24 false).set v true) (by simp) (SI.init hv h24 c) (by
     have:=List.count_le_length (a:=false) (l:=(List.replicate 24 false).set v true);simp only[A5,BH] at this;simp only[Ar,Az];omega)
   rw[h1,Aa];simp only;rw[h2,Ag rfl,Ak];exact ⟨m',rfl,h2,λ w=>by rw[h3.done w];simp⟩
 . exact ⟨_,rfl,by simp,λ w=>by rw[r0];simp⟩
def Qd(g:List (List Int)):Prop:=g.length<=24/\∀v,v<g.length->UG g.length v (g.getD v [])
theorem Tj{n v:Nat}{r:List Int}(h:UG n v r){i:Nat}(hi:i<r.length):0<=r.getD i 0/\r.getD i 0<(n:Int)/\r.getD i 0≠(v:Int)/\(0<i->r.getD (i - 1) 0<r.getD i 0):=by
 have:=h i hi;unfold okE at this;simp only[Ao,BT,BS,BB,Aq] at this;obtain ⟨⟨⟨h1,h2⟩,h3⟩,h4⟩:=this;exact ⟨by omega,by omega,h3,λ h=>by omega⟩
theorem Ajq{n v:Nat}{r:List Int}(h:UG n v r):∀i,i<r.length->(i:Int)<=r.getD i 0
 | 0,hi=>by have:=(Tj h hi).1;omega
 | i+1,hi=>by
   have h1:=Ajq h i (by omega);have h2:=(Tj h hi).2.2.2 (by omega);have e:i+1 - 1=i:=rfl;rw[e] at h2;omega
theorem Pj{n v:Nat}{r:List Int}(h:UG n v r):r.length<=n:=by
 rcases BV r.length with h0 | h0
 . omega
 . have h1:=Ajq h (r.length - 1) (by omega);have h2:=(Tj h (i:=r.length - 1) (by omega)).2.1;omega
theorem Qd.ok{g:List (List Int)}{sh:List Bool}(h:Qd g)(hs:sh.length=g.length):Gok g sh:=by
 refine ⟨h.1,hs,λ v k hk=>?_,λ v=>?_⟩
 . by_cases hv:v<g.length
   . have:=Tj (h.2 v hv) hk;exact ⟨((g.getD v []).getD k 0).toNat,by omega,by omega⟩
   . rw[List.getD,List.getElem?_eq_none (by omega)] at hk;exact absurd hk (AZ _)
 . by_cases hv:v<g.length
   . have:=Pj (h.2 v hv);have:=h.1;omega
   . rw[List.getD,List.getElem?_eq_none (by omega)];simp
theorem Api{g:List (List Int)}{r:List Int}(h:r∈g):∃v,v<g.length/\g.getD v []=r:=by
 obtain ⟨v,hv,rfl⟩:=AA.1 h;exact ⟨v,hv,getD_eq hv⟩
theorem Qd.check{g:List (List Int)}{sh:List Bool}(h:Qd g)(hs:sh.length=g.length):Fc g sh=some 0:=by
 rw[Ru g sh (λ v hv=>by have:=Pj (h.2 v hv);have:=h.1;omega),if_neg (by have:=h.1;omega),if_pos (λ v hv=>Ag (h.2 v hv)),if_pos hs]
theorem Qd.names{g:List (List Int)}{sh:List Bool}(h:Qd g)(hs:sh.length=g.length):JC g sh=some (FH g sh,0):=by
 unfold JC;rw[if_pos (λ r hr=>by
   obtain ⟨v,hv,rfl⟩:=Api hr;have:=Pj (h.2 v hv);have:=h.1;omega),h.check hs]
 rfl
theorem Ajh(g:List (List Int))(v:Nat)(r:List Int)(hr:r.length<=2000000):Cv (M5 g (v:Int) r) (0,-1)=some (if UG g.length v r then .inl (((r.length:Nat):Int),if r.length=0 then -1 else r.getD (r.length - 1) 0) else .inr false):=by
 have h:=E5 (step:=M5 g (v:Int) r) r.length (λ i=>(((i:Nat):Int),if i=0 then -1 else r.getD (i - 1) 0)) (.inl (((r.length:Nat):Int),if r.length=0 then -1 else r.getD (r.length - 1) 0)) (.inr false) (okE g.length v r) ?_ ?_
 . simpa [UG] using h
 . intro i hi hp;rw[M5.eq_1,Et hi,Ak,Ch r i 0 hi,Aa];have V6:(if i=0 then -1 else r.getD (i - 1) 0:Int)<r.getD i 0↔(0<=r.getD i 0/\(i=0∨r.getD (i - 1) 0<r.getD i 0)):=by
     rcases i with _ | i
     . simp;omega
     . have h0:=hp i (by omega);unfold okE at h0;simp only[Ao,BS,BB] at h0;have:=h0.1.1.1;rw[if_neg (by omega),show i+1 - 1=i from rfl];omega
   by_cases c1:r.getD i 0<=(if i=0 then -1 else r.getD (i - 1) 0:Int)
   . rw[Ag c1,Ak];have:okE g.length v r i=false:=by
       unfold okE;have h2:¬(0<=r.getD i 0/\(i=0∨r.getD (i - 1) 0<r.getD i 0)):=λ h=>by have:=V6.2 h;omega
       by_cases h3:r.getD i 0<0
       . rw[Ag h3];simp
       . have h4:¬(i=0∨r.getD (i - 1) 0<r.getD i 0):=λ h=>h2 ⟨by omega,h⟩;rw[Ah (show ¬i=0 from λ h=>h4 (.inl h)),Ag (show r.getD i 0<=r.getD (i - 1) 0 by rcases Int.lt_or_le (r.getD (i - 1) 0) (r.getD i 0) with h5 | h5;exact absurd (.inr h5) h4;exact h5)];simp
     rw[this];rfl
   . rw[Ah c1,Aj];have h2:=V6.1 (by omega);have h5:(decide (i=0)||!decide (r.getD i 0<=r.getD (i - 1) 0))=true:=by
       simp only[BT,Aq,BS,BB];omega
     have h6:decide (r.getD i 0<0)=false:=Ah (by omega);unfold okE;rw[h5,h6];cases c2:decide ((g.length:Int)<=r.getD i 0)
     . cases c3:decide (r.getD i 0=(v:Int))
       . rw[Aj,Aj,Cu (by omega)];simp
       . simp
     . simp
 . intro _;rw[M5.eq_1,E4,Aj]
theorem Apq(g:List (List Int))(hr:∀v,v<g.length->(g.getD v []).length<=2000000):QG g=some (decide (g.length<=24/\∀v,v<g.length->UG g.length v (g.getD v []))):=by
 unfold QG;by_cases h1:24<((g.length:Nat):Int)
 . rw[Ag h1,Ak,Ah (by omega)]
 . rw[Ah h1,Aj];have h:=E5 (step:=Pg g) g.length (λ i=>((i:Nat):Int)) (.inl ((g.length:Nat):Int)) (.inr false) (λ v=>decide (UG g.length v (g.getD v []))) ?_ ?_
   . rw[show (0:Int)=((0:Nat):Int) from rfl,h,Aa];by_cases h2:∀v,v<g.length->decide (UG g.length v (g.getD v []))=true
     . rw[if_pos h2,Ag ⟨by omega,λ v hv=>Ad (h2 v hv)⟩]
     . rw[if_neg h2,Ah (λ h3=>h2 λ v hv=>Ag (h3.2 v hv))]
   . intro v hv _;rw[Pg.eq_1,Et hv,Ak,Ch g v [] hv,Aa,Ajh g v _ (hr v hv),Aa];by_cases h2:UG g.length v (g.getD v [])
     . rw[if_pos h2,if_pos (Ag h2)];simp only;rw[Cu (by omega)]
     . rw[if_neg h2,if_neg (by rw[Ah h2];simp)]
   . intro _;rw[Pg.eq_1,E4,Aj]
theorem Qd.Baj{g:List (List Int)}(h:Qd g):QG g=some true:=by
 rw[Apq g (λ v hv=>by have:=Pj (h.2 v hv);have:=h.1;omega),Ag (show g.length<=24/\∀v,v<g.length->UG g.length v (g.getD v []) from h)]
theorem VS{α σ ε:Type}{step:σ->Option (σ⊕ε)}(n:Nat)(S:α->Nat->σ)(out:α->ε)(I:Nat->α->Prop)
   (h:∀i a,i<n->I i a->∃a',step (S a i)=some (.inl (S a' (i+1)))/\I (i+1) a') (he:∀a,I n a->step (S a n)=some (.inr (out a))) (a0:α) (h0:I 0 a0):∃a',Cv step (S a0 0)=some (out a')/\I n a':=by
 have key:∀m i a,i+m=n->I i a->∃a',Cv step (S a i)=some (out a')/\I n a':=by
   intro m
   induction m with
   | zero=>
     intro i a hi hI;obtain rfl:i=n:=by omega
     exact ⟨a,by rw[CV,he a hI];rfl,hI⟩
   | succ m ih=>
     intro i a hi hI;obtain ⟨a',h1,h2⟩:=h i a (by omega) hI;obtain ⟨a'',h3,h4⟩:=ih (i+1) a' (by omega) h2;exact ⟨a'',by rw[CV,h1];exact h3,h4⟩
 exact key n 0 a0 (by omega) h0
theorem IL.lt{g:List (List Int)}{sh:List Bool}(hg:Gok g sh){v w:Nat}(h:IL g sh v w)(hv:v<g.length):w<g.length:=by
 cases h with
 | refl=>exact hv
 | tail _ e=>
   obtain ⟨w2,e2,U8⟩:=hg.mem e.1;omega
theorem HC.lt{g:List (List Int)}{sh:List Bool}(hg:Gok g sh){l:List Int}(h:HC g sh l){v:Nat}(hv:v<g.length):l.getD v (-1)<(g.length:Int):=by
 cases c:sh.getD v false with
 | true=>rw[(h.2 v hv).2 c];omega
 | false=>
   obtain ⟨_,y,e,h1,_⟩:=(h.2 v hv).1 c;rw[e];have:=h1.lt hg hv;omega
theorem HC.name{g:List (List Int)}{sh:List Bool}(hg:Gok g sh){nm:List Int}(hn:HC g sh nm){v:Nat}(hv:v<g.length)(h0:0<=nm.getD v (-1)):
   ∃y:Nat,nm.getD v (-1)=(y:Int)/\y<g.length/\sh.getD v false=false/\sh.getD y false=false/\nm.getD y (-1)=(y:Int)/\y<=v/\IL g sh v y/\IL g sh y v:=by
 have Yf:sh.getD v false=false:=by
   cases c:sh.getD v false with
   | true=>have:=(hn.2 v hv).2 c;omega
   | false=>rfl
 obtain ⟨_,y,e,h1,h2,h3⟩:=(hn.2 v hv).1 Yf;have hy:=h1.lt hg hv;have hyo:sh.getD y false=false:=by
   cases h1 with
   | refl=>exact Yf
   | tail _ e=>exact e.2
 refine ⟨y,e,hy,Yf,hyo,?_,h3 v (.refl v) (.refl v),h1,h2⟩;obtain ⟨_,h4⟩:=(hn.2 y hy).1 hyo;have h5:Ry g sh y (y:Int):=⟨y,rfl,.refl y,.refl y,λ z hz hz2=>h3 z (h1.trans hz) (hz2.trans h2)⟩;exact h4.uniq h5
theorem HC.same{g:List (List Int)}{sh:List Bool}{nm:List Int}(hn:HC g sh nm){v w:Nat}(hv:v<g.length)(hw:w<g.length)(Yf:sh.getD v false=false)(hwo:sh.getD w false=false)(h1:IL g sh v w)(h2:IL g sh w v):nm.getD v (-1)=nm.getD w (-1):=by
 obtain ⟨_,y,e,a1,a2,a3⟩:=(hn.2 v hv).1 Yf;have:Ry g sh w (y:Int):=⟨y,rfl,h2.trans a1,a2.trans h1,λ z b1 b2=>a3 z (h1.trans b1) (b2.trans h2)⟩;rw[e];exact this.uniq ((hn.2 w hw).1 hwo).2
theorem MC{β:Type}(f:Nat->Option β)(e:β):∀(n v:Nat),v<n->(∀u,u<v->f u=none)->f v=some e->(List.range n).findSome? f=some e
 | 0,v,h,_,_=>by omega
 | n+1,v,h,h1,h2=>by
   rw[List.range_succ,List.findSome?_append];by_cases e1:v=n
   . subst e1;have:(List.range v).findSome? f=none:=by rw[List.findSome?_eq_none_iff];intro x hx;exact h1 x (by simpa using hx)
     rw[this];simp[h2]
   . rw[MC f e n v (by omega) h1 h2];rfl
theorem Aa5{g:List (List Int)}{sh:List Bool}(hg:Gok g sh){nm:List Int}(hn:HC g sh nm){v w:Nat}(hv:v<g.length)(hw:w<g.length):
   ((sh.getD v false=false/\IL g sh v w)/\(sh.getD w false=false/\IL g sh w v))↔(0<=nm.getD v (-1)/\nm.getD v (-1)=nm.getD w (-1)):=by
 constructor
 . rintro ⟨⟨h1,h2⟩,h3,h4⟩;exact ⟨((hn.2 v hv).1 h1).1,hn.same hv hw h1 h3 h2 h4⟩
 . rintro ⟨h1,h2⟩;obtain ⟨y,ey,_,Yf,_,_,_,vy,yv⟩:=hn.name hg hv h1;obtain ⟨z,ez,_,hwo,_,_,_,wz,zw⟩:=hn.name hg hw (by rw[<-h2];exact h1);have:y=z:=by omega
   subst this;exact ⟨⟨Yf,vy.trans zw⟩,hwo,wz.trans yv⟩
def REp(g:List (List Int))(V K:Nat)(w:Nat)(x:Int):Prop:=∃v k:Nat,(v<V∨v=V/\k<K)/\v<g.length/\k<(g.getD v []).length/\(g.getD v []).getD k 0=(w:Int)/\x=(v:Int)
def RIn(g:List (List Int))(V K:Nat)(b:List (List Int)):Prop:=b.length=g.length/\∀w,w<g.length->(b.getD w []).length<=V*1000+K/\∀x,x∈b.getD w []↔REp g V K w x
theorem REp.succ{g:List (List Int)}{V K:Nat}(hV:V<g.length)(hK:K<(g.getD V []).length)(w:Nat)(x:Int):REp g V (K+1) w x↔REp g V K w x∨((g.getD V []).getD K 0=(w:Int)/\x=(V:Int)):=by
 constructor
 . rintro ⟨v,k,h1,h2⟩;by_cases h3:v=V/\k=K
   . obtain ⟨rfl,rfl⟩:=h3;exact .inr h2.2.2
   . exact .inl ⟨v,k,by omega,h2⟩
 . rintro (⟨v,k,h1,h2⟩ | h2)
   . exact ⟨v,k,by omega,h2⟩
   . exact ⟨V,K,by omega,hV,hK,h2⟩
theorem REp.next{g:List (List Int)}{V:Nat}(w:Nat)(x:Int):REp g (V+1) 0 w x↔REp g V (g.getD V []).length w x:=by
 constructor
 . rintro ⟨v,k,h1,h2⟩;by_cases e:v=V
   . subst e;exact ⟨v,k,.inr ⟨rfl,h2.2.1⟩,h2⟩
   . exact ⟨v,k,by omega,h2⟩
 . rintro ⟨v,k,h1,h2⟩;exact ⟨v,k,by omega,h2⟩
theorem Atp{g:List (List Int)}(hv:Qd g):∃b,QH g=some (b,0)/\b.length=g.length/\∀w,w<g.length->(b.getD w []).length<=100000/\∀x,x∈b.getD w []↔∃v:Nat,v<g.length/\(w:Int)∈g.getD v []/\x=(v:Int):=by
 have h24:=hv.1;have Xx:∀v,v<g.length->(g.getD v []).length<=24:=λ v h=>by have:=Pj (hv.2 v h);omega
 have LW:∀V b,V<g.length->RIn g V 0 b->∃b',Cv (M7 (V:Int) (g.getD V [])) (b,0)=some (b',(((g.getD V []).length:Nat):Int))/\RIn g V (g.getD V []).length b':=by
   intro V b hV hI;refine VS (step:=M7 (V:Int) (g.getD V [])) (g.getD V []).length (λ b i=>(b,((i:Nat):Int))) (λ b=>(b,(((g.getD V []).length:Nat):Int))) (λ K b=>RIn g V K b) ?_ ?_ b hI
   . intro K b hK hI;have h1:=Xx V hV;have h2:=Tj (hv.2 V hV) hK;obtain ⟨w0,e0⟩:∃w0:Nat,(g.getD V []).getD K 0=(w0:Int):=⟨((g.getD V []).getD K 0).toNat,by omega⟩;have LA:w0<g.length:=by omega
     have hb:=(hI.2 w0 LA).1;(try dsimp only);rw[M7.eq_1,Et hK,Ak,Ch _ K 0 hK,Aa,e0,Ch b w0 [] (by rw[hI.1];exact LA),Aa,Ag (by omega),Ak,Ab,Cu (by omega)];refine ⟨_,rfl,by simp[hI.1],λ w hw=>?_⟩;rw[E6 _ _ _ _ _ (by rw[hI.1];exact LA)];have hs:=REp.succ hV hK w;rw[e0] at hs;by_cases e:w=w0
     . subst e;rw[if_pos rfl];refine ⟨by rw[Au];simp only[Ar,Az];omega,λ x=>?_⟩;rw[Av,(hI.2 w hw).2 x,hs,Aw];simp
     . rw[if_neg e];refine ⟨by have:=(hI.2 w hw).1;omega,λ x=>?_⟩;rw[(hI.2 w hw).2 x,hs];constructor
       . exact .inl
       . rintro (h | ⟨h,_⟩)
         . exact h
         . omega
   . intro b _;(try dsimp only);rw[M7.eq_1,E4,Aj]
 have Ow:∃b,Cv (M6 g) (List.replicate g.length [],0)=some (b,((g.length:Nat):Int))/\RIn g g.length 0 b:=by
   refine VS (step:=M6 g) g.length (λ b i=>(b,((i:Nat):Int))) (λ b=>(b,((g.length:Nat):Int))) (λ V b=>RIn g V 0 b) ?_ ?_ _ ⟨by simp,λ w hw=>?_⟩
   . intro V b hV hI;obtain ⟨b',h1,h2⟩:=LW V b hV hI;(try dsimp only);rw[M6.eq_1,Et hV,Ak,Ch g V [] hV,Aa,h1,Aa];(try dsimp only);rw[Cu (by omega)];exact ⟨b',rfl,h2.1,λ w hw=>⟨by have:=(h2.2 w hw).1;have:=Xx V hV;omega,λ x=>by rw[(h2.2 w hw).2,REp.next]⟩⟩
   . intro b _;(try dsimp only);rw[M6.eq_1,E4,Aj]
   . have e:(List.replicate g.length ([]:List Int)).getD w []=[]:=by simp[List.getD,Bb,hw]
     rw[e];refine ⟨by simp,λ x=>⟨λ h=>(by cases h),?_⟩⟩;rintro ⟨v,k,h,_⟩;omega
 obtain ⟨b,h1,h2⟩:=Ow;unfold QH;rw[hv.Baj,Aa,Ak,Ag (by omega),Ak,h1,Aa];refine ⟨b,rfl,h2.1,λ w hw=>⟨by have:=(h2.2 w hw).1;omega,λ x=>?_⟩⟩;rw[(h2.2 w hw).2];constructor
 . rintro ⟨v,k,_,Io,hk,h3,h4⟩;exact ⟨v,Io,by rw[<-h3,getD_eq hk];exact AS hk,h4⟩
 . rintro ⟨v,Io,h3,h4⟩;obtain ⟨k,hk,e⟩:=AA.1 h3;exact ⟨v,k,.inl Io,Io,hk,by rw[getD_eq hk,e],h4⟩
structure Rev(g b:List (List Int))(sh:List Bool):Prop where
 gg:Gok g sh
 gb:Gok b sh
 rv:∀v w:Nat,(v:Int)∈b.getD w []↔(w:Int)∈g.getD v []
theorem IL.rev{g b:List (List Int)}{sh:List Bool}(hr:∀v w:Nat,(v:Int)∈b.getD w []->(w:Int)∈g.getD v []){u w:Nat}(h:IL b sh u w)(ho:sh.getD u false=false):IL g sh w u/\sh.getD w false=false:=by
 induction h with
 | refl=>exact ⟨.refl _,ho⟩
 | tail _ e ih=>
   refine ⟨?_,e.2⟩;have e1:Ed g sh _ _:=⟨hr _ _ e.1,ih.2⟩;exact ((IL.refl _).tail e1).trans ih.1
theorem PL{g:List (List Int)}{v:Nat}(h:¬v<g.length):g.getD v []=[]:=by rw[List.getD,List.getElem?_eq_none (by omega)];rfl
theorem Qd.rev{g:List (List Int)}{sh:List Bool}(hv:Qd g)(hs:sh.length=g.length):∃b,QH g=some (b,0)/\Rev g b sh:=by
 obtain ⟨b,h1,h2,h3⟩:=Atp hv;have hg:=hv.ok hs;refine ⟨b,h1,hg,⟨by rw[h2];exact hv.1,by rw[h2];exact hs,λ v k hk=>?_,λ v=>?_⟩,λ v w=>?_⟩
 . by_cases Io:v<g.length
   . obtain ⟨u,hu,_,e⟩:=((h3 v Io).2 _).1 (AS hk);exact ⟨u,by rw[getD_eq hk];exact e,by rw[h2];exact hu⟩
   . rw[PL (by omega)] at hk;exact absurd hk (AZ _)
 . by_cases Io:v<g.length
   . exact (h3 v Io).1
   . rw[PL (by omega)];simp
 . by_cases hw:w<g.length
   . rw[(h3 w hw).2];constructor
     . rintro ⟨u,_,h4,e⟩;have:u=v:=by omega
       rw[<-this];exact h4
     . intro h4;refine ⟨v,?_,h4,rfl⟩;by_cases Io:v<g.length
       . exact Io
       . rw[PL Io] at h4;cases h4
   . rw[PL (by omega)];constructor
     . intro h;cases h
     . intro h;obtain ⟨w2,e,U8⟩:=hg.mem h;omega
def Aol(g:List (List Int))(sh:List Bool):Prop:=(∃v,v<g.length/\sh.getD v false=false)/\∀v w,v<g.length->w<g.length->sh.getD v false=false->sh.getD w false=false->IL g sh v w
theorem Au2{g:List (List Int)}{sh:List Bool}(hv:Qd g)(hs:sh.length=g.length):∃r,QI g sh=some (r,0)/\(r=true↔Aol g sh):=by
 classical
 obtain ⟨b,h1,hr⟩:=hv.rev hs;have h24:=hv.1;have hg:=hr.gg;have TV:b.length=g.length:=by rw[<-hr.gb.shl];exact hs
 let A:Nat->Prop:=λ v=>∀w,w<g.length->sh.getD w false=false->IL g sh v w/\IL g sh w v
 have LW:∀v,v<g.length->sh.getD v false=false->∃m m',Ii g sh (v:Int)=some m/\Ii b sh (v:Int)=some m'/\m.length=24/\m'.length=24/\Cv (M8 sh m m') 0=some (if A v then .inl ((sh.length:Nat):Int) else .inr (false,0)):=by
   intro v Io ho;obtain ⟨m,e1,e2,e3⟩:=Zz hg v Io;obtain ⟨m',f1,f2,f3⟩:=Zz hr.gb v (by omega);refine ⟨m,m',e1,f1,e2,f2,?_⟩;have h:=E5 (step:=M8 sh m m') sh.length (λ i=>((i:Nat):Int)) (.inl ((sh.length:Nat):Int)) (.inr (false,0)) (λ w=>sh.getD w false||(m.getD w false&&m'.getD w false)) ?_ ?_
   . rw[show (0:Int)=((0:Nat):Int) from rfl,h]
     congr 1
     have Ay0:(∀j,j<sh.length->(sh.getD j false||(m.getD j false&&m'.getD j false))=true)↔A v:=by
       constructor
       . intro h w hw hwo;have:=h w (by omega);rw[hwo] at this;simp only[Bool.false_or,Ao] at this;rw[e3,f3] at this;exact ⟨this.1.2,(this.2.2.rev (λ a c=>(hr.rv a c).1) ho).1⟩
       . intro h w hw;cases c:sh.getD w false with
         | true=>rfl
         | false=>
           simp only[Bool.false_or,Ao];rw[e3,f3];have:=h w (by omega) c;exact ⟨⟨ho,this.1⟩,ho,(this.2.rev (g:=b) (λ a c=>(hr.rv c a).2) c).1⟩
     by_cases hA:A v
     . rw[if_pos (Ay0.2 hA),if_pos hA]
     . rw[if_neg (λ h=>hA (Ay0.1 h)),if_neg hA];rfl
   . intro w hw _;have ea:∀x:List Bool,x.length=24->Si 24 x (w:Int)=some (x.getD w false):=λ x hx=>by
       unfold Si;rw[if_pos hx,Ch x w false (by omega)]
     rw[M8.eq_1,Et hw,Ak,Ch sh w false hw,Aa,ea m e2,ea m' f2];have ew:IntKind.i64.wrap ((w:Int)+1)=((w+1:Nat):Int):=Cu (by omega);cases sh.getD w false<;>cases m.getD w false<;>cases m'.getD w false<;>simp[ew]
   . intro _;rw[M8.eq_1,E4,Aj]
 have Auf:∀v,v<sh.length->sh.getD v false=true->JL g sh b ((v:Nat):Int)=some (.inl ((v+1:Nat):Int)):=by
   intro v Io c;rw[JL.eq_1,Et Io,Ak,Ch sh v false Io,Aa,c,Ak,Cu (by omega)]
 have Aug:∀v,v<sh.length->sh.getD v false=false->JL g sh b ((v:Nat):Int)=some (.inr (.inr (decide (A v),(0:Int)))):=by
   intro v Io c;rw[JL.eq_1,Et Io,Ak,Ch sh v false Io,Aa,c];obtain ⟨m,m',e1,f1,e2,f2,e3⟩:=LW v (by omega) c;rw[Aj,e1,Aa,f1,Aa,e2,f2,show decide (24=24)=true from rfl,Ak,Ak,e3,Aa];by_cases hA:A v
   . rw[if_pos hA,Ag hA]
   . rw[if_neg hA,Ah hA]
 have h:=I2 (step:=JL g sh b) sh.length (λ i=>((i:Nat):Int)) (.inl ((sh.length:Nat):Int)) (λ v=>if sh.getD v false=true then none else some (Sum.inr (decide (A v),(0:Int)))) (λ i hi _=>by
   cases c:sh.getD i false
   . rw[Aug i hi c];simp
   . rw[Auf i hi c];simp) (λ _=>by rw[JL.eq_1,E4,Aj])
 unfold QI;rw[h1,Aa];dsimp only;rw[show decide ((0:Int)=0)=true from rfl,Ak,hs,Ag rfl,Ak,show (0:Int)=((0:Nat):Int) from rfl,h,Aa];by_cases hex:∃v,v<sh.length/\sh.getD v false=false
 . have PF:∀n,(∃v,v<n/\v<sh.length/\sh.getD v false=false)->∃v,v<sh.length/\sh.getD v false=false/\∀u,u<v->sh.getD u false=true:=by
     intro n
     induction n with
     | zero=>rintro ⟨v,hv,_⟩;omega
     | succ n ih=>
       rintro ⟨v,hv,Q0,hP⟩;by_cases hx:∃u,u<n/\u<sh.length/\sh.getD u false=false
       . exact ih hx
       . refine ⟨v,Q0,hP,λ u hu=>?_⟩;cases c:sh.getD u false with
         | true=>rfl
         | false=>exact absurd ⟨u,by omega,by omega,c⟩ hx
   obtain ⟨v0,Ov,hP0⟩:=hex;obtain ⟨v,Q0,Yf,hm⟩:=PF (v0+1) ⟨v0,by omega,Ov,hP0⟩;rw[MC _ (Sum.inr (decide (A v),(0:Int))) sh.length v Q0 (λ u hu=>by rw[if_pos (hm u hu)]) (by rw[if_neg (by rw[Yf];decide)])];refine ⟨decide (A v),rfl,?_⟩;rw[Aq];constructor
   . intro hA;exact ⟨⟨v,by omega,Yf⟩,λ x y hx hy hxo hyo=>(hA x hx hxo).2.trans (hA y hy hyo).1⟩
   . intro hM w hw hwo;exact ⟨hM.2 v w (by omega) hw Yf hwo,hM.2 w v hw (by omega) hwo Yf⟩
 . have:(List.range sh.length).findSome? (λ v=>if sh.getD v false=true then none else some (Sum.inr (decide (A v),(0:Int)):Int⊕(Bool×Int)))=none:=by
     rw[Bs];intro x hx;cases c:sh.getD x false with
     | true=>rfl
     | false=>exact absurd ⟨x,by simpa using hx,c⟩ hex
   rw[this];refine ⟨false,rfl,λ h=>(by cases h),λ hM=>?_⟩;obtain ⟨v,hv1,RX⟩:=hM.1;exact absurd ⟨v,by omega,RX⟩ hex
theorem Ajc(n v:Nat):(List.replicate n false).getD v false=false:=by
 simp only[List.getD,Bb];split<;>rfl
theorem Ai0{g:List (List Int)}(hv:Qd g)(h1:0<g.length):(∀v,v<g.length->(FH g (List.replicate g.length false)).getD v (-1)=0)↔Aol g (List.replicate g.length false):=by
 have hs:(List.replicate g.length false).length=g.length:=by simp
 have hg:=hv.ok hs;have hn:=QP g (List.replicate g.length false);generalize Jp:List.replicate g.length false=sh at*;have ho:∀v,sh.getD v false=false:=λ v=>by rw[<-Jp];exact Ajc _ _
 generalize FH g sh=nm at hn ⊢;constructor
 . intro h;refine ⟨⟨0,h1,ho 0⟩,λ v w hv hw _ _=>?_⟩;have hm:=(Aa5 hg hn hv hw).2 ⟨by rw[h v hv];omega,by rw[h v hv,h w hw]⟩;exact hm.1.2
 . rintro ⟨_,DK⟩ v hv;obtain ⟨y,ey,hy,_,_,hyy,_,_,_⟩:=hn.name hg hv ((hn.2 v hv).1 (ho v)).1;obtain ⟨_,z,ez,_,_,hz⟩:=(hn.2 v hv).1 (ho v);have:=hz 0 (DK v 0 hv h1 (ho v) (ho 0)) (DK 0 v h1 hv (ho 0) (ho v));rw[ez];omega
def M9(r:List UInt8):Option (List UInt8):=if r.length<=1000 then some (OY r) else none
theorem VV(r s:List UInt8)(h:M9 r=some s):BZ prog 27 [.p (.str r)] [] λ h d=>h=[]/\d= .p (.str s):=by
 unfold M9 at h;split at h<;>cases h;rename_i hs;refine B1 func27 rfl Amw (by simp[Tryz.f27]) ?_;simp only[go_sem];refine ⟨by simp[maxLen];omega,?_⟩;simp only[go_sem,OY];rfl
def Pv:Option (Bool):=
 Option.bind (M9 [114,111,98,111,116,32,100,32,50,10]) λ x1=>Option.bind (IT x1) λ (x3,x4,x5,x6)=>Option.bind (M9 [114,111,98,111,116,32,100,32,49,10,114,111,98,111,116,32,100,32,50,10]) λ x8=>Option.bind (IT x8) λ (OU,DI,x12,Qn)=>cond (decide (x6=0)) (cond (decide (x5=0)) (cond (decide (x4.LF=2)) (cond (decide (x4.cap=1)) (cond (decide (x4.Co=2)) (cond (decide (((x3.B0.length:Nat):Int)=1)) (some (decide (Qn=18))) (some false)) (some false)) (some false)) (some false)) (some false)) (some false)
theorem Aai(r:Bool)(hr:Pv=some r):
   BZ prog 8 [] [] λ h d=>h=[]/\d= .p (.bool r):=by
 refine B1 func8 rfl Ar6 (by simp[Tryz.f8]) ?_;unfold Pv at hr;obtain ⟨x1,g2,hr⟩:=bE hr;try simp only[go_sem]
 refine Cq (VV [114,111,98,111,116,32,100,32,50,10] _ g2) ?_;obtain ⟨⟨x3,x4,x5,x6⟩,g7,hr⟩:=bE hr;try simp only[go_sem]
 refine Cq (QW x1 _ g7) ?_;obtain ⟨x8,g9,hr⟩:=bE hr;try simp only[go_sem]
 refine Cq (VV [114,111,98,111,116,32,100,32,49,10,114,111,98,111,116,32,100,32,50,10] _ g9) ?_;obtain ⟨⟨OU,DI,x12,Qn⟩,g14,hr⟩:=bE hr;try simp only[go_sem]
 refine Cq (QW x8 _ g14) ?_;cases JS:decide (x6=0)
 . simp only[JS,Aj] at hr;cases hr;(try simp only[go_sem,JS]);all_goals ((try refine BY ?_);(try simp only[go_sem,JS]);try first | rfl | exact ⟨rfl,rfl⟩ | (simp;done))
 simp only[JS,Ak] at hr;cases MM:decide (x5=0)
 . simp only[MM,Aj] at hr;cases hr;(try simp only[go_sem,JS,MM]);all_goals ((try refine BY ?_);(try simp only[go_sem,JS,MM]);try first | rfl | exact ⟨rfl,rfl⟩ | (simp;done))
 simp only[MM,Ak] at hr;cases ML:decide (x4.LF=2)
 . simp only[ML,Aj] at hr;cases hr;(try simp only[go_sem,JS,MM,ML]);all_goals ((try refine BY ?_);(try simp only[go_sem,JS,MM,ML]);try first | rfl | exact ⟨rfl,rfl⟩ | (simp;done))
 simp only[ML,Ak] at hr;cases JG:decide (x4.cap=1)
 . simp only[JG,Aj] at hr;cases hr;(try simp only[go_sem,JS,MM,ML,JG]);all_goals ((try refine BY ?_);(try simp only[go_sem,JS,MM,ML,JG]);try first | rfl | exact ⟨rfl,rfl⟩ | (simp;done))
 simp only[JG,Ak] at hr;cases SG:decide (x4.Co=2)
 . simp only[SG,Aj] at hr;cases hr;(try simp only[go_sem,JS,MM,ML,JG,SG]);all_goals ((try refine BY ?_);(try simp only[go_sem,JS,MM,ML,JG,SG]);try first | rfl | exact ⟨rfl,rfl⟩ | (simp;done))
 simp only[SG,Ak] at hr;cases WH:decide (((x3.B0.length:Nat):Int)=1)
 . simp only[WH,Aj] at hr;cases hr;(try simp only[go_sem,JS,MM,ML,JG,SG,WH]);all_goals ((try refine BY ?_);(try simp only[go_sem,JS,MM,ML,JG,SG,WH]);try first | rfl | exact ⟨rfl,rfl⟩ | (simp;done))
 simp only[WH,Ak] at hr;cases hr;try simp only[go_sem,JS,MM,ML,JG,SG,WH]
 all_goals ((try refine BY ?_);(try simp only[go_sem,JS,MM,ML,JG,SG,WH]);try first | rfl | exact ⟨rfl,rfl⟩ | (simp;done))
theorem Aej:Pv=some true:=by
 have t1:M9 [114,111,98,111,116,32,100,32,50,10]=some (OY PW):=rfl;have t2:M9 [114,111,98,111,116,32,100,32,49,10,114,111,98,111,116,32,100,32,50,10]=some (OY PV):=rfl;unfold Pv;rw[t1,t2];simp only[Aa];rw[Ar5,Ar4];rfl
theorem Aal:BZ prog 8 [] [] λ h d=>h=[]/\d= .p (.bool true):=Aai true Aej
def Qy(a0:KQ)(a1:KQ):Option (Bool):=
 cond (decide (a0.LF=a1.LF)) (Option.bind (ES a0.N2 a1.N2) λ x2=>cond x2 (cond (decide (a0.Co=a1.Co)) (some (decide (a0.cap=a1.cap))) (some false)) (some false)) (some false)
theorem YN(a0:KQ)(a1:KQ)(r:Bool)(hr:Qy a0 a1=some r):
   BZ prog 13 [.agg [.p (.int .i64 a0.LF),.p (.sl (BX a0.N2)),.p (.int .i64 a0.Co),.p (.int .i64 a0.cap)],.agg [.p (.int .i64 a1.LF),.p (.sl (BX a1.N2)),.p (.int .i64 a1.Co),.p (.int .i64 a1.cap)]] [] λ h d=>h=[]/\d= .p (.bool r):=by
 refine B1 func13 rfl An6 (by simp[Tryz.f13]) ?_;unfold Qy at hr;cases c1:decide (a0.LF=a1.LF)
 . simp only[c1,Aj] at hr;cases hr;(try simp only[go_sem,c1]);all_goals ((try refine BY ?_);(try simp only[go_sem,c1]);try first | rfl | exact ⟨rfl,rfl⟩ | (simp;done))
 simp only[c1,Ak] at hr;obtain ⟨x2,g3,hr⟩:=bE hr;try simp only[go_sem,c1]
 refine Cq (Ix a0.N2 a1.N2 _ g3) ?_;cases c4:x2
 . simp only[c4,Aj] at hr;cases hr;(try simp only[go_sem,c1,c4]);all_goals ((try refine BY ?_);(try simp only[go_sem,c1,c4]);try first | rfl | exact ⟨rfl,rfl⟩ | (simp;done))
 simp only[c4,Ak] at hr;cases c5:decide (a0.Co=a1.Co)
 . simp only[c5,Aj] at hr;cases hr;(try simp only[go_sem,c1,c4,c5]);all_goals ((try refine BY ?_);(try simp only[go_sem,c1,c4,c5]);try first | rfl | exact ⟨rfl,rfl⟩ | (simp;done))
 simp only[c5,Ak] at hr;cases hr;try simp only[go_sem,c1,c4,c5]
 all_goals ((try refine BY ?_);(try simp only[go_sem,c1,c4,c5]);try first | rfl | exact ⟨rfl,rfl⟩ | (simp;done))
def Nt.pd(n:Nt):List Pd:=[.sl (C2 n.blocks),.sl (Cr n.next),.sl (C1 n.spurs),.sl (BX n.B0),.int .i64 n.cq,.int .i64 n.ca,.int .i64 n.cd,.int .i64 n.cp]
theorem dt{a:Prop}[Decidable a](h:a):decide a=true:=Ag h
theorem JZ(l:List Int)(h:l.length<=10000000):ES l l=some true:=by
 have hl:=C6 (step:=FY l l) l.length (λ k=>(k:Int)) (Sum.inl ((l.length:Nat):Int))
   (λ k hk=>by
     rw[FY.eq_1,Et hk,Ak,Ch l k 0 hk];simp only[Aa];simp only[decide_true,Ak,Aa,Bool.and_self,beq_self_eq_true,eq_self_iff_true,Bl];rw[Cu (by omega)])
   (by rw[FY.eq_1,E4,Aj])
 unfold ES;rw[dt rfl,Ak,show (0:Int)=((0:Nat):Int) from rfl,hl,Aa]
theorem S6(l:List (List Int))(h:l.length<=10000000)(h2:∀r∈l,r.length<=10000000):FX l l=some true:=by
 have hl:=C6 (step:=Fy l l) l.length (λ k=>(k:Int)) (Sum.inl ((l.length:Nat):Int))
   (λ k hk=>by
     rw[Fy.eq_1,Et hk,Ak,Ch l k [] hk];simp only[Aa];rw[JZ _ (h2 _ (by rw[Vg hk];exact AS hk))];simp only[Aa];rw[Ak,Cu (by omega)])
   (by rw[Fy.eq_1,E4,Aj])
 unfold FX;rw[dt rfl,Ak,show (0:Int)=((0:Nat):Int) from rfl,hl,Aa]
theorem W3(n:Nt)(h1:n.blocks.length<=10000000)(h2:n.next.length<=10000000)(h3:∀r∈n.next,r.length<=10000000)(h4:n.spurs.length<=10000000)(h5:n.B0.length<=10000000):MY n n=some true:=by
 have Sp:=C6 (step:=Ja n n) n.blocks.length (λ k=>(k:Int)) (Sum.inl ((n.blocks.length:Nat):Int))
   (λ k hk=>by
     rw[Ja.eq_1,Et hk,Ak,Ch n.blocks k (n.blocks[k]'hk) hk];simp only[Aa];simp only[decide_true,Ak,Aa,Bool.and_self,beq_self_eq_true,eq_self_iff_true,Bl];rw[Cu (by omega)])
   (by rw[Ja.eq_1,E4,Aj])
 have hl1:=C6 (step:=Jb n n) n.spurs.length (λ k=>(k:Int)) (Sum.inl ((n.spurs.length:Nat):Int))
   (λ k hk=>by
     rw[Jb.eq_1,Et hk,Ak,Ch n.spurs k (n.spurs[k]'hk) hk];simp only[Aa];simp only[decide_true,Ak,Aa,Bool.and_self,beq_self_eq_true,eq_self_iff_true,Bl];rw[Cu (by omega)])
   (by rw[Jb.eq_1,E4,Aj])
 unfold MY;rw[dt rfl,Ak,S6 _ h2 h3];simp only[Aa];simp only[decide_true,Ak,Aa,Bool.and_self,beq_self_eq_true,eq_self_iff_true,Bl];rw[JZ _ h5];simp only[decide_true,Ak,Aa,Bool.and_self,beq_self_eq_true,eq_self_iff_true,Bl];rw[show (0:Int)=((0:Nat):Int) from rfl,Sp];simp only[Aa];rw[hl1];rfl
theorem filter_one{α:Type}(p:α->Bool)(x0:α):∀(l:List α) (j:Nat),j<l.length->p (l.getD j x0)=true->(∀k,k<l.length->k≠j->p (l.getD k x0)=false)->l.filter p=[l.getD j x0]
 | [],j,h,_,_=>by simp at h
 | x::r,0,_,h,hu=>by
   have hx:p x=true:=h;rw[List.filter_cons_of_pos hx];have:r.filter p=[]:=by
     rw[List.filter_eq_nil_iff];intro y hy;obtain ⟨k,hk,rfl⟩:=AA.1 hy;have:=hu (k+1) (by simp;omega) (by omega);rw[List.getD_cons_succ,Vg hk] at this;simp[this]
   rw[this];rfl
 | x::r,j+1,hj,h,hu=>by
   have hx:p x=false:=hu 0 (by simp) (by omega);rw[List.filter_cons_of_neg (by simp[hx])];exact filter_one p x0 r j (by simpa using hj) (by simpa using h) (λ k hk Dl=>by have:=hu (k+1) (by simpa using hk) (by omega);simpa using this)
theorem Qv(nb:Nat)(l:List C3)(h:DV nb l):∀(b a:Nat),a<=b->b<=l.length->Dk (l.take a)<=Dk (l.take b)
 | 0,a,ha,_=>by
   have:a=0:=by omega
   subst this;exact BP _
 | b+1,a,ha,hb=>by
   rcases Nat.lt_or_ge b a with h1 | h1
   . have:a=b+1:=by omega
     subst this;exact BP _
   . have h2:=Qv nb l h b a h1 (by omega);have h3:=(h b (by omega)).2.2.2.2.1;rw[CB l b Cm (by omega),D4];omega
theorem Acf{nb:Nat}{l:List C3}(h:DV nb l){i:Nat}(hi:i<l.length){r:Int}(h1:Sh r (l.getD i Cm)=true):(nb:Int)+Dk (l.take i)<=r/\r<(nb:Int)+Dk (l.take (i+1)):=by
 have h2:=(h i hi).2.2.2.2.2.2;rw[CB l i Cm hi,D4];simp only[Sh,Ao,Aq] at h1;rw[h2] at h1;omega
theorem Xt{nb:Nat}{l:List C3}(h:DV nb l){i j:Nat}(hi:i<l.length)(hj:j<l.length){r:Int}(h1:Sh r (l.getD i Cm)=true)(h2:Sh r (l.getD j Cm)=true):i=j:=by
 have a:=Acf h hi h1;have b:=Acf h hj h2;rcases Nat.lt_trichotomy i j with c | c | c
 . have:=Qv nb l h j (i+1) (by omega) (by omega);omega
 . exact c
 . have:=Qv nb l h i (j+1) (by omega) (by omega);omega
theorem Tb{nb:Nat}{sp:List C3}(h:DV nb sp){rb:List Int}(hr:Ee sp rb){k:Nat}(hk:k<rb.length):
   ∃j,j<sp.length/\Sh (rb.getD k 0) (sp.getD j Cm)=true/\(sp.getD j Cm).CA=true/\sp.filter (Sh (rb.getD k 0))=[sp.getD j Cm]:=by
 have h1:=(hr k hk).1;rw[A4] at h1;obtain ⟨s,hs,h2⟩:=h1;obtain ⟨j,hj,rfl⟩:=AA.1 hs;have e:sp.getD j Cm=sp[j]:=Vg hj;simp only[NF,Ao] at h2;have h3:Sh (rb.getD k 0) (sp.getD j Cm)=true:=by rw[e];simp only[Sh,Ao];exact h2.2
 refine ⟨j,hj,h3,by rw[e];exact h2.1,filter_one _ _ _ j hj h3 λ i hi Dl=>?_⟩;cases c:Sh (rb.getD k 0) (sp.getD i Cm)
 . rfl
 . exact (Dl (Xt h hi hj c h3)).elim
theorem WL(w:Int)(ns:List (List UInt8))(nu:List Int)(L:List Dc)(h:L.length+1<10000000):CY w ns nu (Ek 0 L)=some (Ek 0 (L++[⟨w,0,ns,nu⟩])):=by
 unfold CY;rw[Kn,Ag h,Ak,Y0,Cu (by omega)];simp[Ek]
theorem nd5(n:Nt)(h:n.blocks.length<=24):Cv (F9 n) ([],0)=some (Ek 0 (G9 n),(n.blocks.length:Int)):=by
 have hl:=C6 (step:=F9 n) n.blocks.length (λ k=>(Ek 0 ((n.blocks.take k).map KO),(k:Int))) (Ek 0 (G9 n),(n.blocks.length:Int))
   (λ k hk=>by
     rw[F9.eq_1,Et hk,Ak,Ch n.blocks k DG hk,Aa,WL _ _ _ _ (by simp;omega),Aa,Cu (by omega),CB n.blocks k DG hk,Be];rfl)
   (by rw[F9.eq_1,E4,Aj];simp[G9])
 exact hl
theorem nd3(n:Nt)(acc:List Dc)(i:Nat)(row:List Int)(ha:acc.length<=1000)(hr4:row.length<=4)(CS:HQ n.blocks.length i row)(hi:i<n.blocks.length):
   Cv (Gi n (i:Int) row) (Ek 0 acc,0)=some (Ek 0 (acc++row.map (K8 n i)),(row.length:Int)):=by
 have hl:=C6 (step:=Gi n (i:Int) row) row.length (λ k=>(Ek 0 (acc++(row.take k).map (K8 n i)),(k:Int))) (Ek 0 (acc++row.map (K8 n i)),(row.length:Int))
   (λ k hk=>by
     have hro:=CS k hk;obtain ⟨x,hx⟩:∃x:Nat,row.getD k 0=(x:Int):=⟨(row.getD k 0).toNat,by have:=hro.1;omega⟩;have hxb:x<n.blocks.length:=by have:=hro.2.1;omega
     rw[Gi.eq_1,Et hk,Ak,Ch row k 0 hk,Aa,Ch n.blocks i DG hi,Aa,hx,Ch n.blocks x DG hxb,Aa,WL _ _ _ _ (by simp;omega),Aa,Cu (by omega),CB row k 0 hk,Be,hx,A0];rfl)
   (by rw[Gi.eq_1,E4,Aj];simp)
 simpa using hl
theorem Rn(n:Nt)(hb:Ia n)(i:Nat)(hi:i<=n.blocks.length):(GQ n i).length<=4*i:=by
 induction i with
 | zero=>simp[GQ]
 | succ i ih=>
   rw[OL,Au];have h1:=ih (by omega);have h2:=(hb.2.2.2 i (by omega)).2.1;simp only[U4,A8];omega
theorem nd4(n:Nt)(hb:Ia n):Cv (Gb n) (Ek 0 (G9 n),0)=some (Ek 0 (G9 n++GQ n n.blocks.length),(n.next.length:Int)):=by
 have Vc:=hb.2.1;have Lb:=hb.2.2.1;have hl:=C6 (step:=Gb n) n.next.length (λ k=>(Ek 0 (G9 n++GQ n k),(k:Int))) (Ek 0 (G9 n++GQ n n.blocks.length),(n.next.length:Int))
   (λ k hk=>by
     have Jt:=Rn n hb k (by omega);obtain ⟨_,h4,CS⟩:=hb.2.2.2 k (by omega);rw[Gb.eq_1,Et hk,Ak,Ch n.next k [] hk,Aa,nd3 n _ k _ (by simp[G9];omega) h4 CS (by omega),Aa,Cu (by omega),OL,U4,A0])
   (by rw[Gb.eq_1,E4,Aj,Lb])
 have h0:GQ n 0=[]:=rfl
 simpa [h0] using hl
theorem YH{nb:Nat}{l:List C3}(h:DV nb l){k:Nat}(hk:k<l.length):∃x y:Nat,(l.getD k Cm).HW=(x:Int)/\x<nb/\(l.getD k Cm).out=(y:Int)/\y<nb:=by
 obtain ⟨a,b,c,d,_⟩:=h k hk;exact ⟨(l.getD k Cm).HW.toNat,(l.getD k Cm).out.toNat,by omega,by omega,by omega,by omega⟩
theorem nd2(n:Nt)(acc:List Dc)(ha:acc.length<=1000)(hs:n.spurs.length<=6)(FT:DV n.blocks.length n.spurs):Cv (Gj n) (Ek 0 acc,0)=some (Ek 0 (acc++JA n),(n.spurs.length:Int)):=by
 have hl:=C6 (step:=Gj n) n.spurs.length (λ k=>(Ek 0 (acc++(n.spurs.take k).map (Gz n)),(k:Int))) (Ek 0 (acc++JA n),(n.spurs.length:Int))
   (λ k hk=>by
     obtain ⟨x,y,hx,hxb,hy,hyb⟩:=YH FT hk;rw[Gj.eq_1,Et hk,Ak,Ch n.spurs k Cm hk,Aa,hx,hy,Ch n.blocks x DG hxb,Aa,Ch n.blocks y DG hyb,Aa,CB n.spurs k Cm hk,Be];have hsd:Gz n (n.spurs.getD k Cm)=⟨if (n.spurs.getD k Cm).CA then 4 else 3,0,[(n.spurs.getD k Cm).name,(n.blocks.getD x DG).name,(n.blocks.getD y DG).name],[(n.spurs.getD k Cm).Co]⟩:=by
       simp only[Gz,UL,hx,hy,Ab]
     simp only[AD,Bk,hsd];cases (n.spurs.getD k Cm).CA
     . rw[Aj,Aa,Aa,WL _ _ _ _ (by simp;omega),Aa,Cu (by omega),A0];rfl
     . rw[Ak,WL _ _ _ _ (by simp;omega),Aa,Cu (by omega),A0];rfl)
   (by rw[Gj.eq_1,E4,Aj];simp[JA])
 simpa using hl
theorem Acw(s:C3)(r:Int)(hb:0<=s.base/\s.base<=1000)(hs:0<=s.Co/\s.Co<=1000):Ea s r=some (Sh r s,r):=by
 unfold Ea Sh;rw[B3 (by omega) (by omega)];cases decide (s.base<=r)<;>rfl
theorem SY{nb:Nat}{l:List C3}(h:DV nb l)(hl:l.length<=6)(hn:nb<=24){k:Nat}(hk:k<l.length):(0<=(l.getD k Cm).base/\(l.getD k Cm).base<=100)/\1<=(l.getD k Cm).Co/\(l.getD k Cm).Co<=4:=by
 have:=h k hk;have h2:=Ie nb l k (by omega) (λ j hj=>h j (by omega));obtain ⟨_,_,_,_,a,b,c⟩:=this;omega
theorem Au7(nb:Nat)(l:List C3)(h:DV nb l)(hl:l.length<=6)(hn:nb<=24)(r:Int)(j:Nat)(hj:j<l.length)(h1:Sh r (l.getD j Cm)=true):Er l r=some ((j:Int),r):=by
 have Sp:=C6 (step:=D8 l) j (λ k=>(r,(k:Int))) (Sum.inr ((j:Int),r))
   (λ k hk=>by
     have TR:k<l.length:=by omega
     obtain ⟨a,b⟩:=SY h hl hn TR;have hf:Sh r (l.getD k Cm)=false:=by
       cases c:Sh r (l.getD k Cm)
       . rfl
       . have:=Xt h TR hj c h1;omega
     rw[D8.eq_1,Et TR,Ak,Ch l k Cm TR,Aa,Acw _ _ (by simp only;omega) (by simp only;omega),Aa]
     show cond (Sh r (l.getD k Cm)) _ _=_
     rw[hf,Aj,Cu (by omega)])
   (by
     obtain ⟨a,b⟩:=SY h hl hn hj;rw[D8.eq_1,Et hj,Ak,Ch l j Cm hj,Aa,Acw _ _ (by simp only;omega) (by simp only;omega),Aa]
     show cond (Sh r (l.getD j Cm)) _ _=_
     rw[h1,Ak])
 unfold Er;rw[show (r,(0:Int))=(r,((0:Nat):Int)) from rfl,Sp];rfl
theorem Rm(n:Nt)(FT:DV n.blocks.length n.spurs)(hr:Ee n.spurs n.B0):∀k,k<=n.B0.length->(HA n k).length=k:=by
 intro k
 induction k with
 | zero=>intro _;rfl
 | succ k ih=>
   intro hk;obtain ⟨j,_,_,_,hf⟩:=Tb FT hr (show k<n.B0.length by omega);rw[OK n k (by omega),Au,ih (by omega),W6,At,hf];rfl
theorem nd1(n:Nt)(acc:List Dc)(ha:acc.length<=1000)(hb:n.blocks.length<=24)(hs:n.spurs.length<=6)(Xx:n.B0.length<=8)(FT:DV n.blocks.length n.spurs)(hr:Ee n.spurs n.B0):
   Cv (Gl n) (Ek 0 acc,0)=some (Ek 0 (acc++HA n n.B0.length),(n.B0.length:Int)):=by
 have hl:=C6 (step:=Gl n) n.B0.length (λ k=>(Ek 0 (acc++HA n k),(k:Int))) (Ek 0 (acc++HA n n.B0.length),(n.B0.length:Int))
   (λ k hk=>by
     obtain ⟨j,hj,h1,_,hf⟩:=Tb FT hr hk;have h4:=Rm n FT hr k (by omega);obtain ⟨a,b⟩:=SY FT hs hb hj;rw[Gl.eq_1,Et hk,Ak,Ch n.B0 k 0 hk,Aa,Au7 _ _ FT hs hb _ j hj h1,Aa];simp only;rw[Ch n.spurs j Cm hj,Aa,OK n k hk,W6,At,hf];simp only[Sh,Ao,Aq] at h1;generalize n.B0.getD k 0=r at*;rw[B3 (x:=r - (n.spurs.getD j Cm).base) (by omega) (by omega),B3 (by omega) (by omega),WL _ _ _ _ (by simp;omega),Aa,Cu (by omega),A0];rfl)
   (by rw[Gl.eq_1,E4,Aj])
 have h0:HA n 0=[]:=rfl
 simpa [h0] using hl
theorem Xf(n:Nt)(hs:Qw n):JO n=some (if validN n then (DD n,0) else ([],20)):=by
 unfold JO;rw[show (⟨n.blocks,n.next,n.spurs,n.B0,n.cq,n.ca,n.cd,n.cp⟩:Nt)=n from rfl,YY n hs,Aa];by_cases hv:validN n
 . rw[Ag hv,Ak,if_pos hv];obtain ⟨hb,hs6,_,Yg,_,FT,Qi,_⟩:=hv;have Jt:=Rn n hb n.blocks.length (Ai _);have h4:=Rm n FT Qi _ (Ai _);have Vc:=hb.2.1;have e1:(G9 n).length=n.blocks.length:=by simp[G9]
   have e3:(JA n).length=n.spurs.length:=by simp[JA]
   rw[nd5 n Vc,Aa];simp only;rw[nd4 n hb,Aa];simp only;rw[nd2 n _ (by simp;omega) hs6 FT,Aa];simp only;rw[nd1 n _ (by simp;omega) Vc hs6 Yg FT Qi,Aa];simp only;rw[WL _ _ _ _ (by simp;omega),Aa];rfl
 . rw[Ah hv,Aj,if_neg hv]
theorem Ahd(n:Nt)(hv:validN n):(DD n).length<=200/\∀x∈DD n,x.names.length<=10/\x.B7.length<=10:=by
 obtain ⟨hb,hs6,_,Yg,_,FT,Qi,_⟩:=hv;have Jt:=Rn n hb n.blocks.length (Ai _);have h4:=Rm n FT Qi _ (Ai _);have Vc:=hb.2.1;have e1:(G9 n).length=n.blocks.length:=by simp[G9]
 have e3:(JA n).length=n.spurs.length:=by simp[JA]
 refine ⟨by rw[DD,Kn,GR];simp;omega,?_⟩;have key:∀(L:List Dc) (i:Nat),(∀x∈L,x.names.length<=10/\x.B7.length<=10)->∀x∈Ek i L,x.names.length<=10/\x.B7.length<=10:=by
   intro L
   induction L with
   | nil=>intro i _ x hx;simp[Ek] at hx
   | cons y r ih=>
     intro i h x hx;simp only[Ek,AF] at hx;rcases hx with rfl | hx
     . exact h y (by simp)
     . exact ih _ (λ z hz=>h z (by simp[hz])) x hx
 refine key _ _ λ x hx=>?_;simp only[GR,Av,Aw] at hx;rcases hx with (((hx | hx) | hx) | hx) | rfl
 . obtain ⟨b,_,rfl⟩:=AP.1 hx;simp[KO]
 . obtain ⟨i,_,hx⟩:=Br.1 hx;obtain ⟨b,_,rfl⟩:=AP.1 hx;simp[K8]
 . obtain ⟨b,_,rfl⟩:=AP.1 hx;simp[Gz]
 . obtain ⟨i,_,hx⟩:=Br.1 hx;obtain ⟨b,_,rfl⟩:=AP.1 hx;simp[L5]
 . simp
theorem Ahc{n:Nt}(hv:validN n):smallD (DD n):=by
 obtain ⟨h1,h2⟩:=Ahd n hv;exact ⟨by omega,λ x hx=>by have:=h2 x hx;omega⟩
def S4(n:Nt):List UInt8×Int:=if validN n then (FP 1 ((DD n).map Oo),0) else ([],20)
theorem Akb(n:Nt)(hs:Qw n):BZ prog 22 [.agg n.cs] [(1000000,(.Df 1 Lw))] λ h r=>h=[(1000000,(.Df 1 Lw))]/\r= .Dg [.p (.str (S4 n).1),.p (.int .i64 (S4 n).2)]:=by
 have hd:=U1 n _ (Xf n hs);unfold S4;refine B1 func22 rfl An0 (by simp[Tryz.f22]) ?_;simp only[go_sem,Nt.cs];refine DF ((hd).Df (id:=1000000) (by decide) rfl (by simp[Da,D.ids,DT]) (λ h1 r hr=>by rw[hr.1];rfl)) ?_;rintro h' r ⟨_,⟨rfl,rfl⟩,rfl⟩;by_cases hv:validN n
 . rw[if_pos hv,if_pos hv];have hds:=Z2 n hv;obtain ⟨Ip,Mu,htl,Yj,Va⟩:=Um n hv;have hf:=ZC (DD n) [] Ip;have Em:=T1 2000000 (DD n) [] hds.2 (by simp);rw[hf] at Em;rw[Bh] at hf Em;simp only[go_sem];refine Cq ((Alg (DD n) (by omega) (λ x hx=>by have:=hds.2 x hx;omega))) ?_;rw[hf];have hlm:((DD n).map λ x=>(⟨x.line,EM x⟩:Ln))=(DD n).map Oo:=rfl;rw[hlm] at Em ⊢;have hml:((DD n).map Oo).length=(DD n).length:=by simp
   generalize (DD n).map Oo=ls at*;simp only[go_sem,Ayv];refine DF ((Akd ls ⟨by omega,λ x hx=>⟨by have:=Va x hx;omega,by have:=Va x hx;omega⟩⟩).Df (id:=1000000) (by decide) rfl (by simp[Da,D.ids,DT]) (λ h1 r hr=>by rw[hr.1];rfl)) ?_;rintro h' r ⟨_,⟨rfl,rfl⟩,rfl⟩;have hj:Pw ls=(FP 1 ls,0):=by unfold Pw;rw[if_pos Mu,if_neg (by omega)]
   simp only[go_sem,Asm,hj];refine BY ?_;simp only[go_sem]
 . rw[if_neg hv,if_neg hv];simp only[go_sem];refine BY ?_;simp only[go_sem]
def Cy.UH(b:Cy):List (List UInt8):=b.bl.map ER.name++b.sp.map C3.name
structure VI(b:Cy):Prop where
 xy:∀x∈b.bl,UN x
 nm:∀x∈b.UH,CL x=true
 nod:b.UH.Nodup
 row:∀i,i<b.bl.length->(b.nx.getD i []).Nodup/\∀j∈b.nx.getD i [],0<=j/\j<(b.bl.length:Int)/\j≠(i:Int)
 io:∀s∈b.sp,0<=s.HW/\s.HW<(b.bl.length:Int)/\0<=s.out/\s.out<(b.bl.length:Int)
 pn:b.pl.Nodup
 pd:∀p∈b.pl,(b.sp.getD p.1.toNat Cm).CA=true/\p.2<=(b.sp.getD p.1.toNat Cm).Co
 cf:H4 b.cq b.ca b.cd b.cp
theorem VM{b:Cy}(n:NI b){x:List UInt8}(h:¬b.Iw x=true):x∉b.UH:=by
 rw[Po n] at h;simp only[Cy.UH,Av];cases c1:LS (b.bl.map ER.name) x with
 | some i=>rw[c1] at h;exact absurd rfl h
 | none=>
   cases c2:LS (b.sp.map C3.name) x with
   | some i=>rw[c1,c2] at h;exact absurd rfl h
   | none=>exact λ h1=>h1.elim (Ho.1 c1) (Ho.1 c2)
theorem VI.block{b:Cy}(h:BI b)(n:NI b)(v:VI b)(d:Dc)(hn:CL (d.names.getD 0 [])=true)(hx:UN ⟨d.names.getD 0 [],d.B7.getD 0 0,d.B7.getD 1 0⟩):VI (b.Ez d).2:=by
 unfold Cy.Ez;split
 . exact v
 . split
   . exact v
   . rename_i h1 h2;have Q4:=VM n h1;have hP:∀(y:List UInt8),y∈(b.bl++[(⟨d.names.getD 0 [],d.B7.getD 0 0,d.B7.getD 1 0⟩:ER)]).map ER.name++b.sp.map C3.name↔y=d.names.getD 0 []∨y∈b.UH:=by
       intro y;simp only[Cy.UH,Be,AD,Bk,Av,Aw];constructor
       . rintro ((h | h) | h)<;>simp[h]
       . rintro (h | h | h)<;>simp[h]
     refine ⟨λ x HZ=>?_,λ x HZ=>?_,?_,λ i hi=>?_,λ s hs=>?_,v.pn,v.pd,v.cf⟩
     . rcases Av.1 HZ with HZ | HZ
       . exact v.xy x HZ
       . rw[Aw.1 HZ];exact hx
     . rcases (hP x).1 HZ with rfl | HZ
       . exact hn
       . exact v.nm x HZ
     . have hv:=v.nod;simp only[Cy.UH] at hv Q4 ⊢;simp only[Be,AD,Bk,A0,List.singleton_append];rw[Bt] at hv ⊢;obtain ⟨a1,a2,a3⟩:=hv;simp only[Av,not_or] at Q4;refine ⟨a1,List.nodup_cons.2 ⟨Q4.2,a2⟩,λ a ha c hc=>?_⟩;rcases AF.1 hc with rfl | hc
       . rintro rfl;exact Q4.1 ha
       . exact a3 a ha c hc
     . simp only[Au,Ar,Az] at hi;by_cases hl:i<b.bl.length
       . have:(b.nx++[[]]).getD i []=b.nx.getD i []:=by simp only[List.getD];rw[AW (by rw[h.nn];exact hl)]
         rw[this];obtain ⟨r1,r2⟩:=v.row i hl;refine ⟨r1,λ j hj=>?_⟩;have:=r2 j hj;simp only[Au,Ar,Az];omega
       . have:(b.nx++[[]]).getD i []=[]:=by
           obtain rfl:i=b.nx.length:=by rw[h.nn];omega
           simp[List.getD]
         rw[this];exact ⟨List.nodup_nil,λ j hj=>by simp at hj⟩
     . have:=v.io s hs;simp only[Au,Ar,Az];omega
theorem VI.lane{b:Cy}(h:BI b)(v:VI b)(x y:List UInt8):VI (b.EW x y).2:=by
 unfold Cy.EW;split
 . rename_i i j h1 h2;split
   . exact v
   . split
     . exact v
     . split
       . exact v
       . rename_i h3 h4 h5;obtain ⟨p,rfl,hp⟩:=h.mb x i h1;obtain ⟨q,rfl,hq⟩:=h.mb y j h2;refine ⟨v.xy,v.nm,v.nod,λ k hk=>?_,v.io,v.pn,v.pd,v.cf⟩;simp only[Ab] at h4 ⊢;obtain ⟨r1,r2⟩:=v.row k hk;have hnn:=h.nn;by_cases e:p=k
         . subst e;have:(b.nx.set p (b.nx.getD p []++[(q:Int)])).getD p []=b.nx.getD p []++[(q:Int)]:=by
             simp[List.getD,show p<b.nx.length by omega]
           rw[this];refine ⟨?_,λ j hj=>?_⟩
           . rw[Bt];refine ⟨r1,by simp,λ a ha c hc=>?_⟩;rw[Aw.1 hc];rintro rfl;exact h4 ha
           . rcases Av.1 hj with hj | hj
             . exact r2 j hj
             . rw[Aw.1 hj];omega
         . have:(b.nx.set p (b.nx.getD p []++[(q:Int)])).getD k []=b.nx.getD k []:=by
             simp[List.getD,BR,e]
           rw[this];exact ⟨r1,r2⟩
 . exact v
theorem VI.Y8:∀{l:List (List UInt8)} {b:Cy},BI b->VI b->VI (b.DZ l).2
 | [],b,h,v=>v
 | [x],b,h,v=>v
 | x::y::r,b,h,v=>by
   simp only[Cy.DZ];split
   . exact VI.Y8 (h.lane x y) (v.lane h x y)
   . exact v.lane h x y
theorem VI.Atj{b:Cy}(h:BI b)(n:NI b)(v:VI b)(d:Dc)(hn:CL (d.names.getD 0 [])=true):VI (b.EC d).2:=by
 unfold Cy.EC;split
 . exact v
 . rename_i h0;have Q4:=VM n h0;split
   . rename_i i j g1 g2;split
     . exact v
     . split
       . exact v
       . split
         . exact v
         . rename_i h1 h2 h3;obtain ⟨p,rfl,hp⟩:=h.mb _ i g1;obtain ⟨q,rfl,hq⟩:=h.mb _ j g2;refine ⟨v.xy,λ x HZ=>?_,?_,v.row,λ s hs=>?_,v.pn,λ p hp=>?_,v.cf⟩
           . simp only[Cy.UH,Be,AD,Bk,Av,Aw] at HZ;rcases HZ with HZ | HZ | rfl
             . exact v.nm x (by simp only[Cy.UH,Av];exact .inl HZ)
             . exact v.nm x (by simp only[Cy.UH,Av];exact .inr HZ)
             . exact hn
           . have hv:=v.nod;simp only[Cy.UH] at hv Q4 ⊢;simp only[Be,AD,Bk,<-List.append_assoc];rw[Bt];refine ⟨hv,by simp,λ a ha c hc=>?_⟩;rw[Aw.1 hc];rintro rfl;exact Q4 ha
           . rcases Av.1 hs with hs | hs
             . exact v.io s hs
             . rw[Aw.1 hs];simp only;omega
           . obtain ⟨⟨m,hm,hml⟩,_⟩:=h.pls p hp;have:=v.pd p hp;rw[hm] at this ⊢;simp only[Ab] at this ⊢;simp only[List.getD] at this ⊢;rw[AW hml];exact this
   . exact v
theorem VI.Aj8{b:Cy}(v:VI b)(d:Dc):VI (b.Du d).2:=by
 unfold Cy.Du;split
 . exact v
 . rename_i i hi;split
   . exact v
   split
   . exact v
   split
   . exact v
   split
   . exact v
   split
   . exact v
   rename_i h1 h2 h3 h4 h5;refine ⟨v.xy,v.nm,v.nod,v.row,v.io,?_,λ p hp=>?_,v.cf⟩
   . simp only;rw[Bt];refine ⟨v.pn,by simp,λ a ha c hc=>?_⟩;rw[Aw.1 hc];rintro rfl;exact h4 ha
   . rcases Av.1 hp with hp | hp
     . exact v.pd p hp
     . rw[Aw.1 hp];simp only[Aq] at h3 ⊢;exact ⟨by simpa using h1,by omega⟩
theorem VI.config{b:Cy}(v:VI b)(d:Dc):VI (b.DE d).2:=by
 unfold Cy.DE;split
 . exact v
 . split
   . exact v
   . rename_i h1 h2;refine ⟨v.xy,v.nm,v.nod,v.row,v.io,v.pn,v.pd,?_⟩;rw[Aba] at h2
     simpa using h2
theorem Yw{d:Dc}(h:CX d=true):(∀x∈d.names,CL x=true)/\∀x∈d.B7,-9999<=x/\x<=9999:=by
 simp only[CX,Ao,AB] at h;obtain ⟨_,_,_,h4,h5⟩:=h;refine ⟨h4,λ x hx=>?_⟩;have:=h5 x hx;simp only[BS,Bool.or_eq_false_iff,BB] at this;omega
theorem VI.add{b:Cy}(h:BI b)(n:NI b)(v:VI b)(d:Dc):VI (b.DH d).2:=by
 unfold Cy.DH;split
 . exact v
 rename_i hv;have hv:CX d=true:=by simpa using hv
 obtain ⟨⟨RW,U8⟩,hnu,hna⟩:=LX hv;obtain ⟨Ox,Va⟩:=Yw hv;have nm0:1<=d.names.length->CL (d.names.getD 0 [])=true:=λ h=>Ox _ (CK d.names 0 [] (by omega));have nu0:∀i,i<d.B7.length->-9999<=d.B7.getD i 0/\d.B7.getD i 0<=9999:=λ i h=>Va _ (CK d.B7 i 0 h);split
 . rename_i c;simp only[Aq] at c;simp only[CG,c,AM] at hnu hna;have a:=nu0 0 (by omega);have c:=nu0 1 (by omega);exact v.block h n d (nm0 (by omega)) ⟨a.1,a.2,c.1,c.2⟩
 split
 . exact v.Y8 h
 split
 . exact v.Aj8 d
 split
 . exact v.config d
 rename_i c1 c2 c3 c4;simp only[Aq] at c1 c2 c3 c4;have:d.word=3∨d.word=4:=by omega
 simp only[CG,c1,c2,this,AM,A9] at hnu hna;exact v.Atj h n d (nm0 (by omega))
theorem NI.add{b:Cy}(h:BI b)(n:NI b)(d:Dc)(hd:d.names.length<=10000000/\d.B7.length<=10000000)(h0:(b.DH d).1=0):NI (b.DH d).2:=by
 obtain ⟨_,_,h2⟩:=Atu h n d hd;exact (h2 h0).2
theorem VI.init:VI Cy.init:=by
 refine ⟨by simp[Cy.init],by simp[Cy.init,Cy.UH],by simp[Cy.init,Cy.UH],by simp[Cy.init],by simp[Cy.init],by simp[Cy.init],by simp[Cy.init],?_⟩
 show H4 4 2 1 8
 unfold H4;omega
theorem Apd(n:Int)(sp:List C3)(ba:List Int)(h:ba.length=sp.length)(i:Nat)(hi:i<sp.length):(MW n sp ba).getD i Cm={sp.getD i Cm with base:=n+ba.getD i 0}:=by
 have h1:i<(MW n sp ba).length:=by rw[O7 _ _ _ h];exact hi
 have h2:i<ba.length:=by omega
 rw[Vg h1,Vg hi,Vg h2];simp[MW]
theorem Gt:∀(l1 l2:List Dc) (b b':Cy),EE b l1=(none,b')->EE b (l1++l2)=EE b' l2
 | [],l2,b,b',h=>by simp only[EE,Prod.mk.injEq,true_and] at h;subst h;rfl
 | d::r,l2,b,b',h=>by
   simp only[AT,EE] at h ⊢;split at h
   . rename_i h0;rw[if_pos h0];exact Gt r l2 _ b' h
   . simp at h
theorem KP{b b':Cy}{d:Dc}(h:b.DH d=(0,b')):EE b [d]=(none,b'):=by simp only[EE,h,AM]
theorem WK:∀(l:List Dc) (i:Nat) (b b':Cy),EE b l=(none,b')->EE b (Ek i l)=(none,b')
 | [],i,b,b',h=>h
 | d::r,i,b,b',h=>by
   have e:b.DH ⟨d.word,(i:Int)+1,d.names,d.B7⟩=b.DH d:=rfl;simp only[Ek,EE,e] at h ⊢;split at h
   . rename_i h0;rw[if_pos h0];exact WK r (i+1) _ b' h
   . simp at h
theorem JV:∀(l:List Dc) (b b':Cy),(∀x∈l,x.names.length<=10/\x.B7.length<=10)->BI b->NI b->EE b l=(none,b')->BI b'/\NI b'
 | [],b,b',_,h,n,he=>by simp only[EE,Prod.mk.injEq,true_and] at he;subst he;exact ⟨h,n⟩
 | d::r,b,b',hs,h,n,he=>by
   simp only[EE] at he;split at he
   . rename_i h0;exact JV r _ b' (λ x hx=>hs x (List.mem_cons_of_mem _ hx)) (h.add d) (n.add h d (by have:=hs d (by simp);omega) h0) he
   . simp at he
theorem VP{b:Cy}(n:NI b){x:List UInt8}(h1:x∉b.bl.map ER.name)(h2:x∉b.sp.map C3.name):b.Iw x=false:=by
 rw[Po n,Ho.2 h1,Ho.2 h2];rfl
theorem VX{l:List (List UInt8)}(h:l.Nodup)(i:Nat)(hi:i<l.length):LS l (l.getD i [])=some i:=by
 cases c:LS l (l.getD i []) with
 | none=>exact absurd (CK l i [] hi) (Ho.1 c)
 | some j=>
   obtain ⟨hj,he⟩:=Px c;rcases Nat.lt_trichotomy i j with h1 | h1 | h1
   . exact absurd he.symm (λ e=>(Jk l).1 h j hj i h1 e.symm)
   . rw[h1]
   . exact absurd he.symm ((Jk l).1 h i hi j h1)
theorem Ad7{x:ER}(hn:CL x.name=true)(hx:UN x):CX (KO x)=true:=by
 unfold UN at hx;simp[CX,KO,CG,hn];omega
theorem Arw{b:Cy}(n:NI b)(x:ER)(hn:CL x.name=true)(hx:UN x)(h1:x.name∉b.bl.map ER.name)(h2:x.name∉b.sp.map C3.name)(hl:b.bl.length<24):
   b.DH (KO x)=(0,{b with mb:=HS b.mb x.name b.bl.length,bl:=b.bl++[x],nx:=b.nx++[[]]}):=by
 unfold Cy.DH;rw[Ad7 hn hx,if_neg (by decide)]
 show (if decide ((1:Int)=1)=true then b.Ez (KO x) else _)=_
 rw[if_pos (by decide)];unfold Cy.Ez
 show (if b.Iw x.name=true then _ else _)=_
 rw[VP n h1 h2,if_neg (by decide),if_neg (by omega)];rfl
theorem Ad6{n:Nt}{i:Nat}{x:Int}(h1:CL (n.blocks.getD i DG).name=true)(h2:CL (UL n x)=true):CX (K8 n i x)=true:=by
 unfold K8;generalize (n.blocks.getD i DG).name=a at*;generalize UL n x=c at*;simp[CX,CG,h1,h2]
theorem Aru{b:Cy}{n:Nt}{i:Nat}{j:Nat}(h1:CL (n.blocks.getD i DG).name=true)(h2:CL (UL n j)=true)(g1:DN b.mb (n.blocks.getD i DG).name=some (i:Int))(g2:DN b.mb (UL n j)=some (j:Int))
   (hij:i≠j) (hm:(j:Int)∉b.nx.getD i []) (hl:(b.nx.getD i []).length<4):
   b.DH (K8 n i j)=(0,{b with nx:=b.nx.set i (b.nx.getD i []++[(j:Int)])}):=by
 have hL:b.EW (n.blocks.getD i DG).name (UL n j)=(0,{b with nx:=b.nx.set i (b.nx.getD i []++[(j:Int)])}):=by
   unfold Cy.EW;rw[g1,g2];simp only;rw[if_neg (by omega),if_neg (by simpa using hm),if_neg (by simp only[Ab];omega)];simp
 unfold Cy.DH;rw[Ad6 h1 h2,if_neg (by decide)]
 show (if decide ((2:Int)=1)=true then _ else if decide ((2:Int)=2)=true then b.DZ [(n.blocks.getD i DG).name,UL n j] else _)=_
 rw[if_neg (by decide),if_pos (by decide)];simp only[Cy.DZ,hL,AM]
def N3(s:C3):C3:={s with base:=0}
theorem Arr{b:Cy}(nI:NI b){n:Nt}{s:C3}{i j:Nat}(h1:CL s.name=true)(h2:CL (UL n s.HW)=true)(h3:CL (UL n s.out)=true)(hi:s.HW=(i:Int))(hj:s.out=(j:Int))
   (g1:DN b.mb (UL n s.HW)=some (i:Int)) (g2:DN b.mb (UL n s.out)=some (j:Int)) (n1:s.name∉b.bl.map ER.name) (n2:s.name∉b.sp.map C3.name) (hs:1<=s.Co/\s.Co<=4) (hl:b.sp.length<6):
   b.DH (Gz n s)=(0,{b with ms:=HS b.ms s.name b.sp.length,sp:=b.sp++[N3 s],ba:=b.ba++[b.sl],sl:=b.sl+s.Co}):=by
 have hv:CX (Gz n s)=true:=by
   cases hd:s.CA
   . simp[CX,Gz,CG,h1,h2,h3,hd];omega
   . simp[CX,Gz,CG,h1,h2,h3,hd];omega
 have hw:(Gz n s).word=3∨(Gz n s).word=4:=by
   cases hd:s.CA
   . simp[Gz,hd]
   . simp[Gz,hd]
 have hw4:decide ((Gz n s).word=4)=s.CA:=by
   cases hd:s.CA
   . simp[Gz,hd]
   . simp[Gz,hd]
 unfold Cy.DH;rw[hv,if_neg (by decide),if_neg (by simp only[Aq];omega),if_neg (by simp only[Aq];omega),if_neg (by simp only[Aq];omega),if_neg (by simp only[Aq];omega)];unfold Cy.EC;rw[show (Gz n s).names.getD 0 []=s.name from rfl,show (Gz n s).names.getD 1 []=UL n s.HW from rfl,show (Gz n s).names.getD 2 []=UL n s.out from rfl,show (Gz n s).B7.getD 0 0=s.Co from rfl,
   VP nI n1 n2,if_neg (by decide),g1,g2,hw4]
 simp only;rw[if_neg (by simp only[Aq];omega),if_neg (by simp only[Aq];omega),if_neg (by omega),<-hi,<-hj];rfl
theorem Art{b:Cy}{r:Int}{s:C3}{j:Nat}(h1:CL s.name=true)(g1:DN b.ms s.name=some (j:Int))(hd:(b.sp.getD j Cm).CA=true)(hs:(b.sp.getD j Cm).Co=s.Co)
   (hr:Sh r s=true) (hs4:s.Co<=4) (hm:((j:Int),r - s.base+1)∉b.pl) (hl:b.pl.length<8):b.DH (L5 r s)=(0,{b with pl:=b.pl++[((j:Int),r - s.base+1)]}):=by
 simp only[Sh,Ao,Aq] at hr;have hv:CX (L5 r s)=true:=by simp[CX,L5,CG,h1];omega
 unfold Cy.DH;rw[hv,if_neg (by decide)]
 show (if decide ((5:Int)=1)=true then _ else if decide ((5:Int)=2)=true then _ else if decide ((5:Int)=5)=true then b.Du (L5 r s) else _)=_
 rw[if_neg (by decide),if_neg (by decide),if_pos (by decide)];unfold Cy.Du;rw[show (L5 r s).names.getD 0 []=s.name from rfl,show (L5 r s).B7.getD 0 0=r - s.base+1 from rfl,g1];simp only[Ab];rw[if_neg (by rw[hd];decide),if_neg (by simp only[Aq];omega),if_neg (by simp only[Aq];omega),if_neg hm,if_neg (by omega)]
theorem Arv{b:Cy}{q a d p:Int}(hc:H4 q a d p)(hf:b.cf=false):b.DH ⟨6,0,[],[q,a,d,p]⟩=(0,{b with cq:=q,ca:=a,cd:=d,cp:=p,cf:=true}):=by
 have Vb:=hc;unfold H4 at Vb;have hv:CX ⟨6,0,[],[q,a,d,p]⟩=true:=by simp[CX,CG];omega
 unfold Cy.DH;rw[hv,if_neg (by decide)]
 show (if decide ((6:Int)=1)=true then _ else if decide ((6:Int)=2)=true then _ else if decide ((6:Int)=5)=true then _ else if decide ((6:Int)=6)=true then b.DE ⟨6,0,[],[q,a,d,p]⟩ else _)=_
 rw[if_neg (by decide),if_neg (by decide),if_neg (by decide),if_pos (by decide)];unfold Cy.DE;rw[if_neg (by simp[hf])]
 show (if Vm q a d p=false then _ else _)=_
 rw[Aba,Ag hc,if_neg (by decide)];rfl
theorem QN{n:Nt}(h:Fp n):(Dd n).Nodup:=(Jk _).2 λ i hi k hk=>(h i hi).2 k hk
theorem Pn{n:Nt}(h:Fp n)(i:Nat)(hi:i<n.blocks.length):CL (n.blocks.getD i DG).name=true:=by
 have:=(h i (by simp[Dd];omega)).1;rwa[Om i (by simp[Dd];omega),if_pos hi] at this
theorem Ac7{n:Nt}(h:Fp n)(i:Nat)(hi:i<n.spurs.length):CL (n.spurs.getD i Cm).name=true:=by
 have:=(h (n.blocks.length+i) (by simp[Dd];omega)).1;rwa[Om _ (by simp[Dd];omega),if_neg (by omega),show n.blocks.length+i - n.blocks.length=i by omega] at this
theorem Ac6{n:Nt}(h:Fp n):(n.blocks.map ER.name).Nodup:=(Bt.1 (QN h)).1
theorem Ac5{n:Nt}(h:Fp n):(n.spurs.map C3.name).Nodup:=(Bt.1 (QN h)).2.1
theorem Awy{n:Nt}(h:Fp n){a:List UInt8}(h1:a∈n.blocks.map ER.name)(h2:a∈n.spurs.map C3.name):False:=(Bt.1 (QN h)).2.2 a h1 a h2 rfl
theorem Y1{l:List (List UInt8)}(h:l.Nodup)(k:Nat)(hk:k<l.length):l.getD k []∉l.take k:=by
 intro hm;obtain ⟨i,hi,he⟩:=AA.1 hm;rw[List.getElem_take] at he;have hik:i<k:=by simp at hi;omega
 refine (Jk l).1 h k hk i hik ?_;rw[Vg (show i<l.length by omega),he]
theorem Aof{n:Nt}(hv:validN n):∀k,k<=n.blocks.length->∃b,EE Cy.init ((n.blocks.take k).map KO)=(none,b)/\BI b/\NI b/\b.bl=n.blocks.take k/\b.nx=List.replicate k []/\b.sp=[]/\b.ba=[]/\b.pl=[]/\b.cf=false:=by
 obtain ⟨hb,hs6,Ox,Yg,hcf,FT,Qi,_⟩:=hv;intro k
 induction k with
 | zero=>intro _;exact ⟨Cy.init,rfl,BI.init,NI.init,rfl,rfl,rfl,rfl,rfl,rfl⟩
 | succ k ih=>
   intro hk;obtain ⟨b,h1,h2,h3,h4,h5,h6,h7,h8,h9⟩:=ih (by omega);have hx:=(hb.2.2.2 k (by omega)).1;have hlen:b.bl.length=k:=by rw[h4];simp;omega
   have I5:=Arw (x:=n.blocks.getD k DG) h3 (Pn Ox k (by omega)) hx
     (by
       rw[h4,Bz];have:=Y1 (Ac6 Ox) k (by simp;omega);rwa[getD_map' ER.name n.blocks k DG [] (by omega)] at this)
     (by rw[h6];simp) (by have:=hb.2.1;omega)
   have JI:=(Gt _ _ _ _ h1).trans (KP I5);have e:(n.blocks.take (k+1)).map KO=(n.blocks.take k).map KO++[KO (n.blocks.getD k DG)]:=by rw[CB n.blocks k DG (by omega),Be];rfl
   rw[<-e] at JI;have hBN:=JV _ _ _ (λ x hx=>by obtain ⟨y,_,rfl⟩:=AP.1 hx;simp[KO]) BI.init NI.init JI;refine ⟨_,JI,hBN.1,hBN.2,?_,?_,h6,h7,h8,h9⟩
   . simp only;rw[h4,CB n.blocks k DG (by omega)]
   . simp only;rw[h5,List.replicate_succ']
theorem Awx(p:List (List Int))(x:List Int)(q:List (List Int))(i:Nat)(h:i=p.length):(p++x::q).getD i []=x:=by subst h;simp[List.getD]
theorem XI{n:Nt}(Ox:Fp n){b:Cy}(h3:NI b)(TV:b.bl=n.blocks)(i:Nat)(hi:i<n.blocks.length):DN b.mb (n.blocks.getD i DG).name=some (i:Int):=by
 rw[h3.mb,TV];have:=VX (Ac6 Ox) i (by simpa using hi);rw[getD_map' ER.name n.blocks i DG [] hi] at this;rw[this];rfl
theorem Aby{nb i:Nat}{l:List Int}(h:HQ nb i l):∀{k t:Nat},t<k->k<l.length->l.getD t 0<l.getD k 0:=by
 intro k
 induction k with
 | zero=>intro t h;omega
 | succ k ih=>
   intro t ht hk;have h1:=(h (k+1) hk).2.2.2 (by omega);rw[show k+1 - 1=k by omega] at h1;by_cases e:t=k
   . rw[e];exact h1
   . have:=ih (t:=t) (by omega) (by omega);omega
theorem Ars{n:Nt}(hv:validN n)(i:Nat)(hi:i<n.blocks.length)(q:List (List Int)):∀(k:Nat) (b:Cy),BI b->NI b->b.bl=n.blocks->k<=(n.next.getD i []).length->b.nx=n.next.take i++(n.next.getD i []).take k::q->
   EE b (((n.next.getD i []).drop k).map (K8 n i))=(none,{b with nx:=n.next.take i++n.next.getD i []::q}):=by
 obtain ⟨hb,hs6,Ox,Yg,hcf,FT,Qi,_⟩:=hv;have Lb:=hb.2.2.1;obtain ⟨_,hl4,CS⟩:=hb.2.2.2 i hi;have hrs:=CS;generalize hR:n.next.getD i []=R at*
 have hti:(n.next.take i).length=i:=by simp;omega
 intro k;generalize hm:R.length - k=m
 induction m generalizing k with
 | zero=>
   intro b h2 h3 TV hk V4;have:k=R.length:=by omega
   subst this;rw[BA,Bk,At] at*;simp only[EE];rw[<-V4]
 | succ m ih=>
   intro b h2 h3 TV hk V4;have TR:k<R.length:=by omega
   obtain ⟨a1,a2,a3,a4⟩:=CS k TR;rw[AX TR,AD];obtain ⟨j,hj⟩:∃j:Nat,R.getD k 0=(j:Int):=⟨(R.getD k 0).toNat,by omega⟩;have hj2:R[k]=(j:Int):=by rw[<-Vg TR];exact hj
   have hjb:j<n.blocks.length:=by omega
   have hx:b.nx.getD i []=R.take k:=by rw[V4];exact Awx _ _ _ i hti.symm
   have I5:=Aru (b:=b) (n:=n) (i:=i) (j:=j) (Pn Ox i hi) (by unfold UL;rw[Ab];exact Pn Ox j hjb) (XI Ox h3 TV i hi) (by unfold UL;rw[Ab];exact XI Ox h3 TV j hjb)
     (by omega) (by
       rw[hx];intro ET;obtain ⟨t,ht,he⟩:=AA.1 ET;rw[List.getElem_take] at he;have htk:t<k:=by simp at ht;omega
       have:=Aby CS htk TR;rw[Vg (show t<R.length by omega),Vg TR] at this;omega)
     (by rw[hx,Bi];omega)
   rw[hj2];simp only[EE,I5,AM];have EZ:b.nx.set i (b.nx.getD i []++[(j:Int)])=n.next.take i++R.take (k+1)::q:=by
     rw[hx,V4];have:=W1 (n.next.take i) q (R.take k) (R.take k++[(j:Int)]);rw[hti] at this;rw[this,CB R k 0 TR,hj]
   rw[EZ];have hBN:=JV [K8 n i j] b _ (λ x hx=>by rw[Aw.1 hx];simp[K8]) h2 h3 (KP I5);rw[EZ] at hBN;exact ih (k+1) (by omega) {b with nx:=n.next.take i++R.take (k+1)::q} hBN.1 hBN.2 TV (by omega) rfl
theorem Y9(n:Nt)(i:Nat):∀x∈U4 n i,x.names.length<=10/\x.B7.length<=10:=by
 intro x hx;obtain ⟨y,_,rfl⟩:=AP.1 hx;simp[K8]
theorem Aoe{n:Nt}(hv:validN n){b:Cy}(h2:BI b)(h3:NI b)(TV:b.bl=n.blocks)(V4:b.nx=List.replicate n.blocks.length []):∀i,i<=n.blocks.length->
   EE b (GQ n i)=(none,{b with nx:=n.next.take i++List.replicate (n.blocks.length - i) []}):=by
 have Lb:=hv.1.2.2.1;intro i
 induction i with
 | zero=>intro _;simp only[GQ,List.range_zero,List.flatMap_nil,EE,List.take_zero,Bh,Nat.sub_zero,<-V4]
 | succ i ih=>
   intro hi;have h1:=ih (by omega);have hsm:∀x∈GQ n i,x.names.length<=10/\x.B7.length<=10:=by
     intro x hx;obtain ⟨y,_,hy⟩:=Br.1 hx;exact Y9 n y x hy
   obtain ⟨hB,hN⟩:=JV _ _ _ hsm h2 h3 h1;rw[OL,Gt _ _ _ _ h1];have Af7:List.replicate (n.blocks.length - i) ([]:List Int)=[]::List.replicate (n.blocks.length - (i+1)) []:=by
     rw[show n.blocks.length - i=(n.blocks.length - (i+1))+1 by omega,List.replicate_succ]
   rw[Af7] at hB hN ⊢;have:=Ars hv i (by omega) (List.replicate (n.blocks.length - (i+1)) []) 0 _ hB hN TV (AE _) (by simp);rw[List.drop_zero] at this;rw[U4,this,CB n.next i [] (by omega),A0];rfl
theorem Ai2{n:Nt}(hv:validN n){b0:Cy}(hB0:BI b0)(hN0:NI b0)(TV:b0.bl=n.blocks)(Aqo:b0.sp=[]):∀k,k<=n.spurs.length->
   ∃b,EE b0 ((n.spurs.take k).map (Gz n))=(none,b)/\BI b/\NI b/\b.bl=b0.bl/\b.nx=b0.nx/\b.sp=(n.spurs.take k).map N3/\b.pl=b0.pl/\b.cf=b0.cf:=by
 obtain ⟨hb,hs6,Ox,Yg,hcf,FT,Qi,_⟩:=hv;intro k
 induction k with
 | zero=>intro _;exact ⟨b0,rfl,hB0,hN0,rfl,rfl,by simpa using Aqo,rfl,rfl⟩
 | succ k ih=>
   intro hk;obtain ⟨b,h1,h2,h3,h4,h5,h6,h7,h8⟩:=ih (by omega);obtain ⟨x,y,hx,hxb,hy,hyb⟩:=YH FT (show k<n.spurs.length by omega);obtain ⟨_,_,_,_,s1,s2,_⟩:=FT k (by omega);have hbn:∀z:Nat,UL n (z:Int)=(n.blocks.getD z DG).name:=λ z=>by unfold UL;rw[Ab]
   have Bbk:(n.spurs.getD k Cm).name∉b.sp.map C3.name:=by
     have e:b.sp.map C3.name=(n.spurs.map C3.name).take k:=by
       rw[h6,List.map_map,Bz];rfl
     rw[e];have:=Y1 (Ac5 Ox) k (by simp;omega);rwa[getD_map' C3.name n.spurs k Cm [] (by omega)] at this
   have Bbn:(n.spurs.getD k Cm).name∉b.bl.map ER.name:=λ hm=>by
     rw[h4,TV] at hm;exact Awy Ox hm (AP.2 ⟨_,CK n.spurs k Cm (by omega),rfl⟩)
   have I5:=Arr (b:=b) h3 (n:=n) (s:=n.spurs.getD k Cm) (i:=x) (j:=y) (Ac7 Ox k (by omega)) (by rw[hx,hbn];exact Pn Ox x hxb) (by rw[hy,hbn];exact Pn Ox y hyb) hx hy
     (by rw[hx,hbn];exact XI Ox h3 (h4.trans TV) x hxb) (by rw[hy,hbn];exact XI Ox h3 (h4.trans TV) y hyb) Bbn Bbk ⟨s1,s2⟩ (by rw[h6];simp;omega)
   have JI:=(Gt _ _ _ _ h1).trans (KP I5);have e:(n.spurs.take (k+1)).map (Gz n)=(n.spurs.take k).map (Gz n)++[Gz n (n.spurs.getD k Cm)]:=by rw[CB n.spurs k Cm (by omega),Be];rfl
   rw[<-e] at JI;have hBN:=JV _ _ _ (λ x hx=>by obtain ⟨y,_,rfl⟩:=AP.1 hx;simp[Gz]) hB0 hN0 JI;refine ⟨_,JI,hBN.1,hBN.2,h4,h5,?_,h7,h8⟩;simp only;rw[h6,CB n.spurs k Cm (by omega),Be];rfl
def Aa2(sp:List C3)(r:Int):Int×Int:=match sp.findIdx? (Sh r) with
 | some j=>((j:Int),r - (sp.getD j Cm).base+1)
 | none=>(0,0)
theorem Xa{nb:Nat}{sp:List C3}(FT:DV nb sp){rb:List Int}(hr:Ee sp rb){k:Nat}(hk:k<rb.length):
   ∃j,j<sp.length/\Sh (rb.getD k 0) (sp.getD j Cm)=true/\(sp.getD j Cm).CA=true/\sp.filter (Sh (rb.getD k 0))=[sp.getD j Cm]/\Aa2 sp (rb.getD k 0)=((j:Int),rb.getD k 0 - (sp.getD j Cm).base+1):=by
 obtain ⟨j,hj,h1,h2,h3⟩:=Tb FT hr hk;refine ⟨j,hj,h1,h2,h3,?_⟩;unfold Aa2;cases c:sp.findIdx? (Sh (rb.getD k 0)) with
 | none=>
   rw[List.findIdx?_eq_none_iff] at c;have:=c _ (CK sp j Cm hj);rw[h1] at this;cases this
 | some i=>
   obtain ⟨hi,EP,_⟩:=List.findIdx?_eq_some_iff_getElem.1 c;have:=Xt FT hi hj (by rw[Vg hi];exact EP) h1;rw[this]
theorem Av6{n:Nt}(Ox:Fp n){b:Cy}(h3:NI b)(FT:b.sp=n.spurs.map N3)(i:Nat)(hi:i<n.spurs.length):DN b.ms (n.spurs.getD i Cm).name=some (i:Int):=by
 have e:b.sp.map C3.name=n.spurs.map C3.name:=by rw[FT,List.map_map];rfl
 rw[h3.ms,e];have:=VX (Ac5 Ox) i (by simpa using hi);rw[getD_map' C3.name n.spurs i Cm [] hi] at this;rw[this];rfl
theorem Aod{n:Nt}(hv:validN n){b:Cy}(hB0:BI b)(hN0:NI b)(Aqo:b.sp=n.spurs.map N3)(hpl:b.pl=[]):∀k,k<=n.B0.length->
   EE b (HA n k)=(none,{b with pl:=(n.B0.take k).map (Aa2 n.spurs)}):=by
 obtain ⟨hb,hs6,Ox,Yg,hcf,FT,Qi,_⟩:=hv;intro k
 induction k with
 | zero=>intro _;simp only[HA,List.take_zero,List.flatMap_nil,EE,Bk,<-hpl]
 | succ k ih=>
   intro hk;have h1:=ih (by omega);obtain ⟨j,hj,i1,i2,i3,i4⟩:=Xa FT Qi (show k<n.B0.length by omega);obtain ⟨_,_,_,_,s1,s2,_⟩:=FT j hj;have hg:b.sp.getD j Cm=N3 (n.spurs.getD j Cm):=by rw[Aqo];exact getD_map' N3 n.spurs j Cm Cm hj
   have I5:=Art (b:={b with pl:=(n.B0.take k).map (Aa2 n.spurs)}) (r:=n.B0.getD k 0) (s:=n.spurs.getD j Cm) (j:=j) (Ac7 Ox j hj) (Av6 Ox hN0 Aqo j hj) (by simp only;rw[hg];exact i2) (by simp only;rw[hg];rfl) i1 s2
     (by
       simp only;intro ET;obtain ⟨r,hr,he⟩:=AP.1 ET;obtain ⟨t,ht,rfl⟩:=AA.1 hr;rw[List.getElem_take] at he hr;have htk:t<k:=by simp at ht;omega
       obtain ⟨j2,hj2,l1,l2,l3,l4⟩:=Xa FT Qi (show t<n.B0.length by omega);rw[Vg (show t<n.B0.length by omega)] at l4 l1;rw[l4,Prod.mk.injEq] at he;have:j2=j:=by omega
       subst this;have Aur:=(Qi k (by omega)).2;apply Aur;have:n.B0.getD k 0=n.B0[t]:=by omega
       rw[this];exact hr)
     (by simp only[A8,Bi];omega)
   rw[OK n k (by omega),Gt _ _ _ _ h1,W6,At,i3]
   show EE _ [L5 _ _]=_
   rw[KP I5];simp only;rw[CB n.B0 k 0 (by omega),Be];simp only[AD,Bk,i4]
theorem YJ:∀(l p:List Int),(p++l).Pairwise (· <= ·)->l.foldl FR p=p++l
 | [],p,_=>by simp
 | x::r,p,h=>by
   have hx:FR p x=p++[x]:=by
     rcases List.eq_nil_or_concat p with rfl | ⟨q,y,rfl⟩
     . rfl
     . rw[List.concat_eq_append] at h ⊢;have h2:(q++[y]).Pairwise (· <= ·):=(Bv.1 h).1;have h3:y<=x:=(Bv.1 h).2.2 y (by simp) x (by simp);rw[Pz q y x h2 (by omega)];simp
   simp only[Bo];rw[hx,YJ r (p++[x]) (by rw[A0];exact h),A0];rfl
theorem Ato{nb i:Nat}{l:List Int}(h:HQ nb i l):DW l=l:=by
 have:l.Pairwise (· <= ·):=by
   rw[List.pairwise_iff_getElem];intro t k ht hk htk;have:=Aby h htk hk;rw[Vg ht,Vg hk] at this;omega
 simpa [DW] using YJ l [] (by simpa using this)
theorem u0(l:List C3)(k:Nat):Dk ((l.map N3).take k)=Dk (l.take k):=by
 induction l generalizing k with
 | nil=>simp
 | cons s r ih=>cases k with
   | zero=>simp
   | succ k=>simp only[AD,List.take_succ_cons,Dk,ih];rfl
theorem Ahy{n:Nt}(hv:validN n):∃b,EE Cy.init (DD n)=(none,b)/\BI b/\NI b/\b.net=n/\b.bl=n.blocks/\b.sp=n.spurs.map N3/\b.cf=true:=by
 have Ov:=hv;obtain ⟨hb,hs6,Ox,Yg,hcf,FT,Qi,_⟩:=hv;have Lb:=hb.2.2.1;obtain ⟨b1,a1,a2,a3,a4,a5,a6,a7,a8,a9⟩:=Aof Ov n.blocks.length (Ai _);rw[At] at a1 a4;have c1:=Aoe Ov a2 a3 a4 a5 n.blocks.length (Ai _);have Bbd:∀x∈GQ n n.blocks.length,x.names.length<=10/\x.B7.length<=10:=by
   intro x hx;obtain ⟨y,_,hy⟩:=Br.1 hx;exact Y9 n y x hy
 obtain ⟨c2,c3⟩:=JV _ _ _ Bbd a2 a3 c1;have ht:n.next.take n.blocks.length=n.next:=by rw[<-Lb,At]
 rw[Nat.sub_self,List.replicate_zero,List.append_nil,ht] at c1 c2 c3;obtain ⟨b3,d1,d2,d3,d4,d5,d6,d7,d8⟩:=Ai2 Ov c2 c3 a4 a6 n.spurs.length (Ai _);rw[At] at d1 d6;have e1:=Aod Ov d2 d3 d6 (d7.trans a8) n.B0.length (Ai _);rw[At] at e1;have Bbc:∀x∈HA n n.B0.length,x.names.length<=10/\x.B7.length<=10:=by
   intro x hx;obtain ⟨i,_,hx⟩:=Br.1 hx;obtain ⟨b,_,rfl⟩:=AP.1 hx;simp[L5]
 obtain ⟨e2,e3⟩:=JV _ _ _ Bbc d2 d3 e1;have f1:=KP (Arv (b:={b3 with pl:=n.B0.map (Aa2 n.spurs)}) hcf (d8.trans a9));have e0:=(Gt _ _ _ _ a1).trans ((Gt _ _ _ _ c1).trans ((Gt _ _ _ _ d1).trans ((Gt _ _ _ _ e1).trans f1)));have ee:GR n=n.blocks.map KO++(GQ n n.blocks.length++(n.spurs.map (Gz n)++(HA n n.B0.length++[⟨6,0,[],[n.cq,n.ca,n.cd,n.cp]⟩]))):=by simp only[GR,G9,JA,A0]
 rw[<-ee] at e0;obtain ⟨f2,f3⟩:=JV _ _ _ (λ x hx=>by rw[Aw.1 hx];simp) e2 e3 f1;refine ⟨_,WK _ 0 _ _ e0,f2,f3,?_,d4.trans a4,d6,rfl⟩;have g1:(MW b3.bl.length b3.sp b3.ba)=n.spurs:=by
   apply List.ext_getElem (by rw[O7 _ _ _ d2.nba,d6];simp);intro i h1 h2;rw[<-Vg (x:=Cm) h1,<-Vg (x:=Cm) h2];have hi:i<b3.sp.length:=by rw[d6];simpa using h2
   rw[Apd _ _ _ d2.nba i hi,d3.ba i hi,d6,u0,getD_map' N3 n.spurs i Cm Cm h2];have:=(FT i h2).2.2.2.2.2.2;rw[d4,a4,<-this];rfl
 have g2:(n.B0.map (Aa2 n.spurs)).map (plB n.spurs)=n.B0:=by
   rw[List.map_map];apply List.ext_getElem (by simp);intro i h1 h2;obtain ⟨j,hj,i1,i2,i3,i4⟩:=Xa FT Qi h2;rw[Vg h2] at i4;rw[List.getElem_map]
   show plB n.spurs (Aa2 n.spurs n.B0[i])=_
   rw[i4,plB];simp only[Ab];omega
 have g3:n.next.map DW=n.next:=by
   apply List.ext_getElem (by simp);intro i h1 h2;rw[List.getElem_map];have:=(hb.2.2.2 i (by omega)).2.2;rw[Vg h2] at this;exact Ato this
 unfold Cy.net;simp only;rw[g1,g2,d5];simp only;rw[g3,d4,a4]
theorem Abc{n:Nt}(hv:validN n):nbuildV (DD n)=(n,0,0):=by
 obtain ⟨b,h1,h2,h3,h4,h5,h6,h7⟩:=Ahy hv;unfold nbuildV;rw[h1];simp only;rw[if_neg (by rw[h5];have:=hv.1.1;simp only[Aq];omega),h4,h6];rw[if_neg];intro he;obtain ⟨_,_,_,_,_,_,_,hd⟩:=hv;obtain ⟨s,hs⟩:=List.exists_mem_of_length_pos hd;rw[List.mem_filter] at hs;rw[List.any_eq_false] at he;exact he (N3 s) (AP.2 ⟨s,hs.1,rfl⟩) hs.2
theorem Acp{g:List (List Int)}(hg:Eg g):Qd g:=⟨hg.1,λ _ hv=>Acq hg hv⟩
theorem all_zero{g:List (List Int)}{l:List Int}(hl:l.length=g.length):(l.all λ x=>decide (x=0))=true↔∀v,v<g.length->l.getD v (-1)=0:=by
 rw[AB];constructor
 . intro h v hv;have e:l.getD v (-1)=l[v]'(by omega):=getD_eq (by omega);rw[e];exact Ad (h _ (AS _))
 . intro h x hx;obtain ⟨v,hv,rfl⟩:=AA.1 hx;have e:l.getD v (-1)=l[v]:=getD_eq hv;rw[<-e];exact Ag (h v (by omega))
def Ai1(n:Nt):Bool:=(FH n.next (G3 n)).all λ x=>decide (x=0)
theorem Aoc{n:Nt}(hv:validN n):Ai1 n=true↔Aol n.next (G3 n):=by
 obtain ⟨hg,_,hl⟩:=D0 hv;have h1:0<n.next.length:=by have:=hv.1.1;omega
 unfold Ai1 G3;rw[all_zero (QP _ _).1,Ai0 (Acp hg) h1]
theorem Awz{n:Nt}(hv:validN n):QI n.next (G3 n)=some (Ai1 n,0):=by
 obtain ⟨hg,_,hl⟩:=D0 hv;obtain ⟨r,h1,h2⟩:=Au2 (Acp hg) (sh:=G3 n) (by simp[G3]);rw[h1,Bp.2 (h2.trans (Aoc hv).symm)]
def Aq2:Nt:=⟨[],[],[],[],0,0,0,0⟩
def Arh:KQ:=⟨0,[],0,0⟩
def Ps(n:Nt):Nt×KQ×Int×Int:=if Ai1 n=false then (Aq2,Arh,0,17) else if (Rq n).cap<((n.B0.length:Nat):Int) then (Aq2,Arh,0,18) else (n,Rq n,0,0)
theorem Aeh{n:Nt}(hv:validN n):IT (S4 n).1=some (Ps n):=by
 obtain ⟨Ip,Mu,htl,Yj,Va⟩:=Um n hv;have hml:((DD n).map Oo).length=(DD n).length:=by simp
 have hb:=RM (DD n) [] Ip;rw[Bh] at hb;unfold S4;rw[if_pos hv];exact Tx (ls:=(DD n).map Oo) (ZH _ Mu htl) ⟨by omega,λ x hx=>by have:=(Va x hx).2;omega⟩ hb (Ahc hv) (Abc hv) hv
end Go.Am
end
noncomputable section
namespace Go.Am
open Go Go.Proofs
open Tryz
open Classical in noncomputable def rCells_v (n:Nt):Option Int:=if validN n then some (cellsV n) else none
open Classical in noncomputable def rSlots_v (n:Nt) (sh:List Bool):Option Int:=if validN n/\(sh.length:Int)=cellsV n then some (slotsV sh n.spurs) else none
set_option maxRecDepth 100000
set_option linter.unusedVariables false
set_option linter.unusedSimpArgs false
set_option maxHeartbeats 2000000
end Go.Am
end
noncomputable section
namespace Go.Am
open Go Go.Proofs
open Tryz
set_option maxRecDepth 100000
set_option linter.unusedVariables false
set_option linter.unusedSimpArgs false
set_option maxHeartbeats 2000000
theorem Baq{n:Nt}(hv:validN n):QI n.next (List.replicate n.blocks.length false)=some (Ai1 n,0):=by
 have:=Awz hv;unfold G3 at this;rwa[(D0 hv).2.2] at this
theorem U3(l:List Int):
   BZ prog 7 [.p (.sl (BX l))] [(1000000,(.Df 1 Lw))] λ h r=>h=[(1000000,(.Df 1 Lw))]/\r= .p (.bool true):=by
 refine B1 func7 rfl Acu (by simp[Tryz.f7]) ?_;simp only[go_sem];refine DF ((Aal).Df (id:=1000000) (by decide) rfl (by simp[Da,D.ids,DT]) (λ h1 r hr=>by rw[hr.1];rfl)) ?_;rintro h' r ⟨_,⟨rfl,rfl⟩,rfl⟩;simp only[go_sem];refine DF ((Ak2 l 0 10 (by omega) (by omega) (by omega)).Df (id:=1000001) (by decide) rfl (by simp[Da,D.ids,DT,C9,AO.ids,get]) (λ h1 r hr=>by obtain ⟨_,_,_,_,rfl,rfl⟩:=hr;rfl)) ?_;rintro h' r ⟨h1,⟨at2,n,hat2,hn,rfl,rfl⟩,rfl⟩;have hv:=hn.1;have hs:=I8 hv;have hl1:n.blocks.length<=24:=hv.1.2.1;have hsv:(S4 n).2=0:=by unfold S4;rw[if_pos hv]
 have Asw:=Aeh hv;obtain ⟨⟨m,c,x,f⟩,hN⟩:∃y,Ps n=y:=⟨_,rfl⟩;rw[hN] at Asw;have hL:=QW _ _ Asw;have hF:=Tz n _ (VW n hs);rw[if_pos hv] at hF;have hM:=Ajj _ _ _ (Baq hv);simp only[go_sem,C9,Nt.cs];refine Cq ((Akb n hs)) ?_;simp only[go_sem,hsv,Nt.cs];refine DF ((hL).Df (id:=1000000) (by decide) rfl (by simp[Da,D.ids,DT]) (λ h1 r hr=>by rw[hr.1];rfl)) ?_;rintro h' r ⟨_,⟨rfl,rfl⟩,rfl⟩;simp only[go_sem];refine Dm [(3,.box [.p (.sl (C2 n.blocks)),.p (.sl (Cr n.next)),.p (.sl (C1 n.spurs)),.p (.sl (BX n.B0)),.p (.int .i64 n.cq),.p (.int .i64 n.ca),.p (.int .i64 n.cd),.p (.int .i64 n.cp)])] mixed (p:=[(0,0),(1,0),(2,0),(3,0),(4,0),(5,1),(6,2),(7,0),(8,0),(9,0),(10,0),(11,0)]) (by kernel_rfl) (by simp[C8,get]) ?_;simp only[go_sem,Cf];refine ⟨by omega,?_⟩;simp only[go_sem,F3];refine o5 ((hM).Df (id:=1000000) (by decide) rfl (by simp[Da,D.ids,DT]) (λ h1 r hr=>by rw[hr.1];rfl)) ?_;rintro h' r ⟨_,⟨rfl,rfl⟩,rfl⟩;simp only[go_sem];refine DF ((hF).Df (id:=1000000) (by decide) rfl (by simp[Da,D.ids,DT]) (λ h1 r hr=>by rw[hr.1];rfl)) ?_;rintro h' r ⟨_,⟨rfl,rfl⟩,rfl⟩;cases cA:Ai1 n
 . have hf:Ps n=(Aq2,Arh,0,17):=by unfold Ps;rw[if_pos cA]
   rw[hf] at hN;cases hN;simp only[go_sem,cA]
 have hx:x=0:=by
   unfold Ps at hN;rw[if_neg (by rw[cA];simp)] at hN;split at hN<;>cases hN<;>rfl
 subst hx;cases cB:decide ((Rq n).cap<((n.B0.length:Nat):Int))
 . have hf:Ps n=(n,Rq n,0,0):=by unfold Ps;rw[if_neg (by rw[cA];simp),if_neg (Ae cB)]
   rw[hf] at hN;cases hN;have h1:=YM n n true (W3 n (by have:=hs.1;omega) (by have:=hs.2.1.1;omega) (λ r hr=>by have:=hs.2.1.2 r hr;omega) (by have:=hs.2.2.1;omega) (by have:=hs.2.2.2;omega));have h2:=YN (Rq n) (Rq n) true (by
     have:=TW (D0 hv).1 (G3 n);unfold Qy;rw[JZ _ (by show (J8 n.next (G3 n)).length<=10000000;omega)];simp)
   simp only[go_sem,cA,BW,cB];refine DF ((h1).Df (id:=1000000) (by decide) rfl (by simp[Da,D.ids,DT]) (λ h1 r hr=>by rw[hr.1];rfl)) ?_;rintro h' r ⟨_,⟨rfl,rfl⟩,rfl⟩;simp only[go_sem];refine DF ((h2).Df (id:=1000000) (by decide) rfl (by simp[Da,D.ids,DT]) (λ h1 r hr=>by rw[hr.1];rfl)) ?_;rintro h' r ⟨_,⟨rfl,rfl⟩,rfl⟩;simp only[go_sem]
 . have hf:Ps n=(Aq2,Arh,0,18):=by unfold Ps;rw[if_neg (by rw[cA];simp),if_pos (Ad cB)]
   rw[hf] at hN;cases hN;simp only[go_sem,cA,BW,cB]
end Go.Am
end
