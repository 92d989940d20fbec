/- Texts of this proof, what it rests on, merged: part I. -/
import Derived.Lib.MapLaws
import Derived.Test.YtjbklifaekjilaaGreatDoorSvH
section
namespace Go.Am
open Go Go.Proofs Go.RowKit
set_option maxRecDepth 100000
set_option linter.unusedVariables false
set_option linter.unusedSimpArgs false
set_option maxHeartbeats 2000000
theorem Z5 {P:Program} {f:FuncId} {args:List D} {b:Bool} {vs:Array Value} {w:World} (Fc:Enters P f) (hc:Aj P f args [] fun h r=>h=[]∧r= .p (.bool b)) (hd:∀F M,G0 F w M (sg []) args vs.toList):
   Calls P f vs w fun e w'=>e= .returned (.bool b)∧Below w.heap.size w w':=by
 have W3:=hc vs w (fun _=>False) (fun _=>⟨0,0,[]⟩) ⟨fun id o h=>by simp[get] at h,fun id o MA o' b h=>by simp[get] at h⟩ (fun _ h=>h.elim) (fun id h=>(h rfl).elim) (hd _ _);have Jt:=W3.resolve_right (fun ⟨v,w',h1,_⟩=>by rw[Fc] at h1;cases h1);refine Jt.2.mono ?_;rintro e w' ⟨v,h',r,F',M',rfl,⟨rfl,rfl⟩,_,hd,hk⟩;obtain rfl:v= .bool b:=by cases hd with | p hd=>cases hd;rfl
 exact ⟨rfl,hk.os,hk.tape,hk.output,hk.size,fun k h=>hk.J5 k h (by rintro ⟨id,o,h1,_⟩;simp[get] at h1)⟩
theorem repeatL_one (c:UInt8) (n:Nat):Lib.repeatL [c] n=List.replicate n c:=by
 induction n with
 | zero=>rfl
 | succ n ih=>simp[Lib.repeatL,ih,List.replicate_succ]
theorem Tp (c:UInt8) (n:Nat) (hn:n≤100000000):Aj Tryz.prog 96 [.p (.str [c]),.p (.int .i64 (n:Nat))] [] fun h r=>h=[]∧r= .p (.str (List.replicate n c)):=by
 refine JO Ai6 fun vs w F M _ _ hd=>?_;obtain ⟨a,b,rfl,ha,hb⟩:=Vw hd;rw[ZM ha,Aqx hb];refine (Tryz.strings_Repeat ⟨#[c]⟩ n w (by omega) (by show 1*n≤_;omega)).mono ?_;rintro e w' ⟨rfl,hb⟩;have e1:=repeatL_one c n;refine ⟨_,rfl,?_,hb⟩;have:=PR.str (F:=fun _=>False) (w:=w') (List.replicate n c);rw[←e1] at this;exact e1 ▸ this
def Ael (c:Int):Bool:=if 126<c then true else !DM (IntKind.u8.wrap c)
theorem Ani (c:Int):Aj Tryz.prog 131 [.p (.int .i32 c)] [] fun h r=>h=[]∧r= .p (.bool (Ael c)):=by
 refine Ak Tryz.func131 rfl Pe (by simp[Tryz.f131]) ?_;by_cases h1:126<c
 · simp only[go_sem,h1];simp[Ael,h1]
 · simp only[go_sem,h1];refine Au (H6 _) ?_;rintro h' r ⟨rfl,rfl⟩;simp only[go_sem];simp[Ael,h1]
def ZW (x:Nat):Bool:=Ael (x:Int)
theorem Aem (b:UInt8) (h:b.toNat<128):ZW b.toNat=!DM b.toNat:=by
 unfold ZW Ael;have hw:IntKind.u8.wrap (b.toNat:Int)=(b.toNat:Int):=by rw[IntKind.wrap_u8];omega
 rw[hw];split
 · have:¬((b.toNat:Int)≤126):=by omega
   simp[DM,this]
 · rfl
theorem Akm (x:Nat) (h:128≤x):ZW x=true:=by
 unfold ZW Ael;rw[if_pos (by omega)]
theorem Ahu (l:List UInt8) (i:Nat):(⟨l.toArray⟩:ByteArray).get! i=l.getD i 0:=by
 show l.toArray[i]! =l.getD i 0
 simp[List.getD];rfl
theorem TN (l:List UInt8):∀(f pos:Nat),l.length≤pos+f→(Lib.idxFuncFrom ZW true ⟨l.toArray⟩ f pos<0↔(l.drop pos).all (fun b=>DM b.toNat)=true)
 | 0,pos,h=>by
   rw[List.drop_of_length_le (by omega)];simp[Lib.idxFuncFrom]
 | f+1,pos,h=>by
   have CD:(⟨l.toArray⟩:ByteArray).size=l.length:=by simp[ByteArray.size]
   unfold Lib.idxFuncFrom;rw[CD];by_cases hp:pos<l.length
   · rw[if_pos hp,Bn l pos 0 hp];have hd:=Lib.decode_at ⟨l.toArray⟩ pos;rw[Ahu] at hd;generalize hb:l.getD pos 0=b at*;simp only[List.all_cons];by_cases h8:b.toNat<128
     · have Hw:Utf8.decode ⟨l.toArray⟩ pos=(b.toNat,1):=by
         rw[hd];unfold Lib.decodeN;rw[if_pos h8]
       rw[Hw];simp only[Aem b h8];cases ha:DM b.toNat
       · simp
       · have:=TN l f (pos+1) (by omega)
         simpa using this
     · have Hw:128≤(Utf8.decode ⟨l.toArray⟩ pos).1:=by
         rw[hd];rcases Lib.decodeN_shape ((⟨l.toArray⟩:ByteArray).size - pos) b.toNat ((⟨l.toArray⟩:ByteArray).get! (pos+1)).toNat ((⟨l.toArray⟩:ByteArray).get! (pos+2)).toNat ((⟨l.toArray⟩:ByteArray).get! (pos+3)).toNat with h1 | h1 | h1 | h1 | h1
         · omega
         · rw[h1.2.2.2.2];exact h1.2.2.2.1
         · rw[h1.2.2.2.2.2.2];have:=h1.2.2.2.2.1;simp only;omega
         · rw[h1.2.2.2.2.2.2.2];have:=h1.2.2.2.2.2.1;simp only;omega
         · rw[h1];decide
       rw[Akm _ Hw,if_pos rfl];have ha:DM b.toNat=false:=by
         have:¬((b.toNat:Int)≤126):=by omega
         simp[DM,this]
       rw[ha];simp
   · rw[if_neg hp,List.drop_of_length_le (by omega)];simp
def o9 (l:List UInt8):Int:=Lib.idxFunc ZW true ⟨l.toArray⟩
theorem Ah3 (l:List UInt8):o9 l<0↔l.all (fun b=>DM b.toNat)=true:=by
 have:=TN l l.length 0 (by omega);have CD:(⟨l.toArray⟩:ByteArray).size=l.length:=by simp[ByteArray.size]
 unfold o9 Lib.idxFunc;rw[CD]
 simpa using this
theorem Abh (l:List UInt8):Aj Tryz.prog 130 [.p (.str l),.fn 131 []] [] fun h r=>h=[]∧r= .p (.int .i64 (o9 l)):=by
 refine JO Acy fun vs w F M _ _ hd=>?_;obtain ⟨a,b,rfl,ha,hb⟩:=Vw hd;rw[ZM ha];obtain rfl:b= .func (.func 131) #[] #[]:=by
   cases hb with
   | fn f cap vs hl h=>
     obtain rfl:vs=#[]:=Array.eq_empty_of_size_eq_zero (by simpa using hl);rfl
 refine (Tryz.strings_IndexFunc_grows 131 #[] Pe ZW ⟨l.toArray⟩ w fun W x hx hb=>?_).mono ?_
 · refine Z5 (args:=[.p (.int .i32 (x:Int))]) Pe (Ani (x:Int)) fun F M=>⟨rfl,fun i d hd=>?_⟩;cases i with
   | zero=>simp only[List.getElem?_cons_zero,Option.some.injEq] at hd;subst hd;exact .p (.int _ _)
   | succ i=>simp at hd
 · rintro e w' ⟨rfl,hb⟩;exact ⟨_,rfl,.int _ _,hb⟩
theorem Aas (s:List UInt8):Aj Tryz.prog 94 [.p (.str s)] [] fun h r=>h=[]∧r= .p (.bool (Cr s)):=by
 refine Ak Tryz.func94 rfl Ai7 (by simp[Tryz.f94]) ?_;by_cases h1:s=[]
 · subst h1;simp only[go_sem];simp[Cr]
 · by_cases h2:(s.length:Int)≤12
   · simp only[go_sem,h1,h2];refine Au (Abh s) ?_;rintro h' r ⟨rfl,rfl⟩;simp only[go_sem];have EV:s.length≤12:=by omega
     have:=Ah3 s;simp only[Cr,h1,EV,ne_eq,not_false_eq_true,decide_true,Bool.true_and];by_cases h3:o9 s<0
     · simp[h3,this.1 h3]
     · have h4:(s.all fun b=>DM b.toNat)=false:=by
         cases h5:s.all fun b=>DM b.toNat
         · rfl
         · exact (h3 (this.2 h5)).elim
       simp[h3,h4]
   · have EV:¬s.length≤12:=by omega
     simp only[go_sem,h1,h2];simp[Cr,EV]
end Go.Am
end
section
namespace Go.Am
open Go Go.Proofs
set_option maxRecDepth 100000
set_option linter.unusedVariables false
set_option linter.unusedSimpArgs false
set_option maxHeartbeats 2000000
def o6 (r:List UInt8×Int):D:= .BA [.p (.str r.1),.p (.int .i64 r.2)]
theorem QL (a b:D):List.take 2 [a,b]=[a,b]:=rfl
def PK (l:List Ln) (i:Nat) (at_:Nat) (Yi:List UInt8):St:=
 ⟨[(10,.ptr 10 0),(11,.p (.int .i64 (at_:Nat))),(57,.p (.sl (CN l))),(58,.p (.int .i64 (l.length:Nat))),(59,.p (.int .i64 (i:Nat)))],
   match i with
   | 0=>[(10,.box [.np,.cl []] 142)]
   | _+1=>[(10,.box [.ptr 10 0,.ref 10073 0 Yi.length Yi.length] 142),(10073,.arr 5 1 (Co Yi))],79⟩
theorem Agx (l:List Ln) (hl:l.length≤4000000∧∀x∈l,x.fs.length≤4000000∧x.num≤9223372036854775807):Aj Tryz.prog 52 [.p (.sl (CN l))] [] fun h r=>h=[]∧r=o6 (Fs l):=by
 obtain ⟨hl,hz⟩:=hl;refine Ak Tryz.func52 rfl Aiz (by simp[Tryz.f52]) ?_;simp only[go_sem,A5];refine Ao (fun q:Nat×Int×Nat=>⟨[(0,.p (.sl (CN l))),(4,.p (.int .i64 q.2.1)),(5,.p (.int .i64 (q.2.2:Nat))),(14,.p (.sl (CN l))),(15,.p (.int .i64 (l.length:Nat))),(16,.p (.int .i64 (q.1:Nat)))],[],79⟩)
   (fun q=>q.1≤l.length∧0≤q.2.1∧q.2.2≤60000000*q.1∧B2 q.2.1 (l.drop q.1)=B2 0 l∧E7 q.2.1 (l.drop q.1)=E7 0 l∧(B2 0 l=true→q.2.2+VS (l.drop q.1)=VS l)) (fun q=>l.length - q.1) (0,0,0)
   ⟨Nat.zero_le _,by simp,by simp,by simp,by simp,by simp⟩ (Wk.forget (by simp[Le,AG,Av,get,Aa,Ac,Ad,D.ids,Ai,AO.ids,Ae,base])) ?_
 rintro ⟨i,last,sz⟩ n ⟨hi,RD,CD,hf,hla,Zp⟩ ih;simp only at hi RD CD hf hla Zp;simp only[go_sem];refine AK (fun h1=>?_) (fun h1=>?_)
 · have AL:i<l.length:=by simp at h1;omega
   have Bm:(0:Int)≤(i:Int)∧(i:Int)<(l.length:Int):=by omega
   have hw:=As i (by omega);have hg:=IT l i AL;have hzx:=hz _ (A7 l i TE AL);rw[Bn l i TE AL] at hf hla Zp;generalize l.getD i TE=x at*;obtain ⟨num,fs⟩:=x;simp only at hg hzx;simp only[go_sem,A5,Int.toNat_natCast,hg,Bm,QL,Aq];have bad:B2 last (⟨num,fs⟩::l.drop (i+1))=false→Fs l=([],20):=by
     intro h;rw[hf] at h;simp[Fs,h]
   cases c1:decide (num≤last);rotate_left
   · simp only[go_sem,c1];rw[bad (by have:=of_decide_eq_true c1;simp[B2];omega)];refine Ah ?_;simp only[go_sem];rfl
   have J7:=of_decide_eq_false c1;cases c2:decide ((fs.length:Int)=0);rotate_left
   · simp only[go_sem,c1,c2,Aq];rw[bad (by have:=of_decide_eq_true c2;have:fs=[]:=List.eq_nil_of_length_eq_zero (by omega);simp[B2,this])];refine Ah ?_;simp only[go_sem];rfl
   have M6:=of_decide_eq_false c2;have Atq:fs≠[]:=by rintro rfl;simp at M6
   simp only[go_sem,c1,c2,Aq];refine Ao (fun q:Nat×Nat=>⟨[(0,.p (.sl (CN l))),(4,.p (.int .i64 num)),(5,.p (.int .i64 (q.2:Nat))),(14,.p (.sl (CN l))),(15,.p (.int .i64 (l.length:Nat))),(16,.p (.int .i64 (i:Nat))),(33,.p (.sl (AV fs))),(34,.p (.int .i64 (fs.length:Nat))),(35,.p (.int .i64 (q.1:Nat)))],[],79⟩)
     (fun q=>q.1≤fs.length∧q.2≤sz+13*q.1∧q.2+HN (fs.drop q.1)=sz+HN fs∧(fs.drop q.1).all Cr=fs.all Cr) (fun q=>fs.length - q.1) (0,sz) ⟨Nat.zero_le _,by simp,by simp,by simp⟩ (Wk.forget (by simp[Le,AG,Av,get,Aa,Ac,Ad,D.ids,Ai,AO.ids,Ae,base])) ?_
   rintro ⟨j,M3⟩ n2 ⟨hj,KN,Yl,Fe⟩ Fi;simp only at hj KN Yl Fe;simp only[go_sem];refine AK (fun h2=>?_) (fun h2=>?_)
   · have Oo:j<fs.length:=by simp at h2;omega
     have TV:(0:Int)≤(j:Int)∧(j:Int)<(fs.length:Int):=by omega
     have TQ:=As j (by omega);have hgj:=BT fs j Oo;rw[Bn fs j [] Oo] at Yl Fe;generalize fs.getD j []=s at*;simp only[go_sem,Aq,Int.toNat_natCast,hgj,TV];refine Au (Aas s) ?_;rintro h' r ⟨rfl,rfl⟩;cases hp:Cr s
     · simp only[go_sem,hp];have:fs.all Cr=false:=by rw[←Fe];simp[hp]
       rw[bad (by simp[B2,this])];refine Ah ?_;simp only[go_sem];rfl
     · have Abu:=(Ix.1 hp).2.1;simp only[HN] at Yl;simp only[List.all_cons,hp,Bool.true_and] at Fe;have NL:IntKind.i64.wrap ((s.length:Int)+1)=((s.length+1:Nat):Int):=As _ (by omega);have TS:IntKind.i64.wrap ((M3:Int)+((s.length+1:Nat):Int))=((M3+(s.length+1):Nat):Int):=by rw[An]<;>omega
       simp only[go_sem,hp,NL,TS,TQ];refine Fi (j+1,M3+(s.length+1)) _ ⟨Oo,by simp only;omega,by simp only;omega,Fe⟩ (by simp only;omega) (Wk.forget (by simp[Le,AG,Av,get,Aa,Ac,Ad,D.ids,Ai,AO.ids,Ae,base]))
   · have hjl:j=fs.length:=by simp at h2;omega
     subst hjl;simp only[List.drop_length,HN,List.all_nil,Nat.add_zero] at Yl Fe;simp only[go_sem,hw];have hfb:B2 last (⟨num,fs⟩::l.drop (i+1))=B2 num (l.drop (i+1)):=by
       have:last<num:=by omega
       simp[B2,this,Atq,←Fe]
     refine ih (i+1,num,M3) _ ⟨AL,by simp only;omega,by have:=hzx.1;simp only;omega,by simp only;rw[←hf,hfb],by simp only;rw[←hla];rfl,fun h=>?_⟩ (by simp only;omega) (Wk.forget (by simp[Le,AG,Av,get,Aa,Ac,Ad,D.ids,Ai,AO.ids,Ae,base]));have:=Zp h;simp only[VS] at this;simp only;omega
 · have Zv:i=l.length:=by simp at h1;omega
   subst Zv;simp only[List.drop_length,B2,E7,VS,Nat.add_zero] at hf hla Zp;have Fv:=hf.symm;have Aq4:=Zp Fv;clear hf Zp ih;have Oo:=Abd l Fv;rw[←hla,←Aq4] at Oo;have NL:IntKind.i64.wrap ((sz:Int) - (l.length:Int))=(sz:Int) - l.length:=by rw[An]<;>omega
   have Qf:(if (6001:Int)<last then 6001 else last)=min last 6001:=by split<;>omega
   have TS:IntKind.i64.wrap (6000 - (if (6001:Int)<last then 6001 else last))=6000 - min last 6001:=by rw[Qf,An]<;>omega
   simp only[go_sem,A5,NL,TS];by_cases ZA:(6000:Int) - min last 6001<(sz:Int) - (l.length:Int)
   · simp only[go_sem,ZA];have:=Oo.2 ZA;rw[show Fs l=([],1) by simp[Fs,Fv,this]];refine Ah ?_;simp only[go_sem];rfl
   · have Aq5:¬6000<(CQ 1 l).length:=fun h=>ZA (Oo.1 h);have hjv:Fs l=(CQ 1 l,0):=by simp[Fs,Fv,Aq5]
     rw[hjv];simp only[go_sem,ZA,A5];refine Ao (fun q:Nat×Nat×List UInt8=>PK l q.1 q.2.1 q.2.2)
       (fun q=>q.1≤l.length∧(1≤q.2.1∧q.2.1≤q.2.2.length+1)∧B2 ((q.2.1 - 1:Nat):Int) (l.drop q.1)=true∧q.2.2++CQ q.2.1 (l.drop q.1)=CQ 1 l∧(q.1=0→q.2.2=[])∧(q.1≠0→q.2.2≠[])) (fun q=>l.length - q.1) (0,1,[])
       ⟨Nat.zero_le _,by simp,by simpa using Fv,by simp,by simp,by simp⟩ (Wk.forget (by simp[Le,AG,Av,get,Aa,Ac,Ad,D.ids,Ai,AO.ids,Ae,base,PK])) ?_
     rintro ⟨k,at_,Yi⟩ n ⟨hk,G4,hfk,htx,Ex,OZ⟩ ih;simp only at hk G4 hfk htx Ex OZ;by_cases AL:k<l.length
     · have hki:(k:Int)<(l.length:Int):=by omega
       have Ax0:(0:Int)≤(k:Int):=by omega
       have hw:=As k (by omega);have hg:=IT l k AL;have hzx:=hz _ (A7 l k TE AL);rw[Bn l k TE AL] at hfk htx;generalize l.getD k TE=x at*;obtain ⟨num,fs⟩:=x;obtain ⟨f1,f2,f3,f4⟩:=Hy.1 hfk;simp only at hg hzx f1 f2 f3 f4;obtain ⟨m,rfl⟩:∃m:Nat,num=(m:Int):=⟨num.toNat,by omega⟩;simp only[CQ,Int.toNat_natCast] at htx;have hlen:=congrArg List.length htx;simp only[List.length_append,List.length_replicate,List.length_cons] at hlen;have hwl:=Ha fs f2;have hle:at_≤m:=by clear NL TS Oo;omega
       have hws:IntKind.i64.wrap ((m:Int) - (at_:Int))=((m - at_:Nat):Int):=by
         have:=hzx.2;clear NL TS Oo Qf;rw[An]<;>omega
       have hm6:m≤10000:=by clear NL TS Oo Qf;omega
       have hwm:IntKind.i64.wrap ((m:Int)+1)=((m+1:Nat):Int):=by rw[An]<;>omega
       have Qw:((m+1 - 1:Nat):Int)=(m:Int):=by omega
       have Jp:List.replicate (m - at_) (10:UInt8)++Cg fs++[10]=List.replicate (m - at_) 10++(Cg fs++[10]):=by simp
       generalize hs:List.replicate (m - at_) (10:UInt8)++Cg fs++[10]=s at*;have Asz:s≠[]:=by rw[←hs];simp
       have hsl:s.length≤6000:=by rw[←hs];simp;omega
       have At0:m+1≤(Yi++s).length+1:=by rw[←hs];simp;omega
       have W7:(Yi++s)++CQ (m+1) (l.drop (k+1))=CQ 1 l:=by rw[←htx,←hs];simp
       cases k with
       | zero=>
         have Aq3:=Ex rfl;subst Aq3;simp only[PK];have hkz:(0:Int)<(l.length:Int):=by omega
         have Awz:(0:Int)≤(0:Int):=by omega
         simp only[go_sem,A5,Int.toNat_natCast,hkz,Awz,hg,QL,Int.reduceToNat];refine AY mixed (p:=[(0,0),(1,0),(2,0),(3,0),(5,0),(6,0),(4,2),(7,2),(8,0),(9,0),(10,3)]) (by kernel_rfl) (by simp[Av,get]) ?_;simp only[go_sem,hws];refine Bu ((Tp 10 (m - at_) (by omega))) ?_;rintro h' r ⟨rfl,rfl⟩;simp only[go_sem];refine Bu ((WR fs f2 (by omega) (by omega))) ?_;rintro h' r ⟨rfl,rfl⟩;simp only[go_sem,hs];refine ⟨by unfold maxLen;first | omega | (simp;omega),by unfold maxLen;first | omega | (simp;omega),?_⟩;refine Bu ((VJ s Asz (by omega))) ?_;rintro h' r ⟨rfl,rfl⟩;have Ami:IntKind.i64.wrap 1=1:=rfl;simp only[go_sem,hwm,hw,Ami];refine ih (0+1,m+1,s) _ ⟨AL,⟨by simp only;omega,by simpa using At0⟩,by first | (simp only[Qw];exact f4) | (rw[Qw];exact f4),by simpa using W7,by simp,fun _=>Asz⟩ (by first | omega | (simp only;omega)) (Wk.forget (by simp[Le,AG,Av,get,Aa,Ac,Ad,D.ids,Ai,AO.ids,Ae,base,PK,Ami]))
       | succ k=>
         have Awj:=OZ (by omega);simp only[PK];simp only[go_sem,A5,Int.toNat_natCast,hki,Ax0,hg,QL];refine AY mixed (p:=[(0,0),(1,0),(2,0),(3,0),(5,0),(6,0),(4,2),(7,2),(8,0),(9,0),(10,3)]) (by kernel_rfl) (by simp[Av,get]) ?_;simp only[go_sem,hws];refine Bu ((Tp 10 (m - at_) (by omega))) ?_;rintro h' r ⟨rfl,rfl⟩;simp only[go_sem];refine Bu ((WR fs f2 (by omega) (by omega))) ?_;rintro h' r ⟨rfl,rfl⟩;simp only[go_sem,hs];refine ⟨by unfold maxLen;first | omega | (simp;omega),by unfold maxLen;first | omega | (simp;omega),?_⟩;refine Bu ((XZ Yi s (by have:=congrArg List.length W7;simp at this;omega))) ?_;rintro h' r ⟨rfl,rfl⟩;simp only[go_sem,hwm,hw];refine ih (k+1+1,m+1,Yi++s) _ ⟨AL,⟨by simp only;omega,At0⟩,by simp only[Qw];exact f4,W7,by simp,fun _=>by simp[Awj]⟩ (by simp only;omega) (Wk.forget (by simp[Le,AG,Av,get,Aa,Ac,Ad,D.ids,Ai,AO.ids,Ae,base,PK]))
     · have Yu:k=l.length:=by omega
       have hki:¬(k:Int)<(l.length:Int):=by omega
       rw[List.drop_of_length_le (by omega)] at htx;simp only[CQ,List.append_nil] at htx;rw[←htx];cases k with
       | zero=>
         have Aq3:=Ex rfl;subst Aq3;simp only[PK];have hkz:¬(0:Int)<(l.length:Int):=by omega
         simp only[go_sem,hkz];refine Au ((X2 (T:=142) (by decide))) ?_;rintro h' r ⟨rfl,rfl⟩;simp only[go_sem];refine Ah ?_;simp only[go_sem];rfl
       | succ k=>
         simp only[PK];simp only[go_sem,hki];refine Au ((ZS (OZ (by omega)))) ?_;rintro h' r ⟨rfl,rfl⟩;simp only[go_sem];refine Ah ?_;simp only[go_sem];rfl
theorem Afd (j:Nat) (h1:1≤j) (h6:j<7):Aj Tryz.prog 99 [.p (.int .i64 (j:Nat))] [] fun h r=>h=[]∧r= .p (.str (Ct j).word):=by
 refine Ak Tryz.func99 rfl Ai4 (by simp[Tryz.f99]) ?_;have hj:j=1∨j=2∨j=3∨j=4∨j=5∨j=6:=by omega
 rcases hj with rfl | rfl | rfl | rfl | rfl | rfl<;>
 · simp only[go_sem];try rfl
theorem w9 (d:Dc) (hd:d.names.length≤10000000∧d.AJ.length≤10000000):Aj Tryz.prog 75 [d.d] [] fun h r=>h=[]∧r= .p (.bool (BD d)):=by
 obtain ⟨word,line,names,AJ⟩:=d;simp only at hd;refine Ak Tryz.func75 rfl Aii (by simp[Tryz.f75]) ?_;by_cases h1:word<1
 · have hv:BD ⟨word,line,names,AJ⟩=false:=by simp[BD];intro h;omega
   simp only[go_sem,Dc.d,h1,hv]
 by_cases h2:6<word
 · have hv:BD ⟨word,line,names,AJ⟩=false:=by simp[BD];intro h;omega
   simp only[go_sem,Dc.d,h1,h2,hv]
 have hv:BD ⟨word,line,names,AJ⟩=(decide ((AJ.length:Int)=(A4 word).2)&&((decide ((names.length:Int)=(A4 word).1)||(decide ((A4 word).1<(names.length:Int))&&decide (word=2)))&&
   (names.all Bs&&AJ.all fun n=>!(decide (n< -9999)||decide (9999<n))))):=by
   have:decide ((1:Int)≤word∧word≤6)=true:=by simp;omega
   simp only[BD,this,Bool.true_and]
 rw[hv];clear hv;simp only[go_sem,Dc.d,h1,h2];refine Au ((Afr word)) ?_;rintro h' r ⟨rfl,rfl⟩;generalize hA:(A4 word).1=a at*;generalize hB:(A4 word).2=b at*;cases c1:decide ((AJ.length:Int)=b)
 · simp only[go_sem,c1,Ab,Aq];try simp
 cases c2:decide ((names.length:Int)<a);rotate_left
 · have e1:=of_decide_eq_true c2;have c3:decide ((names.length:Int)=a)=false:=by rw[decide_eq_false_iff_not];omega
   have c4:decide (a<(names.length:Int))=false:=by rw[decide_eq_false_iff_not];omega
   simp only[go_sem,c1,c2,Ab,Aq];try simp[c3,c4]
 have e2:=of_decide_eq_false c2;have hpq:∀Q:Bool,(decide (a<(names.length:Int))&&!decide (word=2))=false→((decide ((names.length:Int)=a)||(decide (a<(names.length:Int))&&decide (word=2)))&&Q)=Q:=by
   intro Q hq;cases c3:decide (a<(names.length:Int))<;>cases c4:decide (word=2)
   · have:decide ((names.length:Int)=a)=true:=by have:=of_decide_eq_false c3;rw[decide_eq_true_iff];omega
     simp[this]
   · have:decide ((names.length:Int)=a)=true:=by have:=of_decide_eq_false c3;rw[decide_eq_true_iff];omega
     simp[this]
   · simp[c3,c4] at hq
   · simp
 have hpz:(decide (a<(names.length:Int))&&!decide (word=2))=true→∀Q:Bool,((decide ((names.length:Int)=a)||(decide (a<(names.length:Int))&&decide (word=2)))&&Q)=false:=by
   intro hq Q;simp only[Bool.and_eq_true,Bool.not_eq_true',decide_eq_true_eq,decide_eq_false_iff_not] at hq;have:decide ((names.length:Int)=a)=false:=by rw[decide_eq_false_iff_not];omega
   simp[this,hq.2]
 cases hq:(decide (a<(names.length:Int))&&!decide (word=2));rotate_left
 · rw[hpz hq];rw[Bool.and_eq_true,Bool.not_eq_true'] at hq;simp only[go_sem,c1,c2,hq.1,hq.2,Ab,Aq];try rfl
 rw[hpq _ hq];cases c3:decide (a<(names.length:Int))<;>cases c4:decide (word=2)
 case true.false=>rw[c3,c4] at hq;cases hq
 all_goals
   simp only[go_sem,c1,c2,c3,c4,Ab,Aq];refine Ao (fun i:Nat=>⟨[(1,.ptr 1 0),(5,.p (.int .i64 (i:Nat)))],[(1,.box [.p (.int .i64 word),.p (.int .i64 line),.p (.sl (AV names)),.p (.sl (Ag AJ))])],80⟩)
     (fun i=>i≤names.length∧(names.take i).all Bs=true) (fun i=>names.length - i) 0 ⟨Nat.zero_le _,by simp⟩ (Wk.forget (by simp[Le,AG,Av,get,Aa,Ac,Ad,D.ids,Ai,AO.ids,Ae,base])) ?_
   rintro i n ⟨hi,ha⟩ ih;cases c5:decide ((i:Int)<(names.length:Int))
   · have:i=names.length:=by have:=of_decide_eq_false c5;omega
     subst this;clear ih;rw[List.take_length] at ha;simp only[go_sem,c5,Aq];rw[ha];refine Ao (fun i:Nat=>⟨[(1,.ptr 1 0),(6,.p (.int .i64 (i:Nat)))],[(1,.box [.p (.int .i64 word),.p (.int .i64 line),.p (.sl (AV names)),.p (.sl (Ag AJ))])],80⟩)
       (fun i=>i≤AJ.length∧(AJ.take i).all (fun n=>!(decide (n< -9999)||decide (9999<n)))=true) (fun i=>AJ.length - i) 0 ⟨Nat.zero_le _,by simp⟩ (Wk.forget (by simp[Le,AG,Av,get,Aa,Ac,Ad,D.ids,Ai,AO.ids,Ae,base])) ?_
     rintro i n ⟨hi,hb⟩ ih;cases c6:decide ((i:Int)<(AJ.length:Int))
     · have:i=AJ.length:=by have:=of_decide_eq_false c6;omega
       subst this;rw[List.take_length] at hb;simp only[go_sem,c6,Ab];rw[hb];try rfl
     · have hit:i<AJ.length:=by have:=of_decide_eq_true c6;omega
       have hg:=AD AJ i hit;have Bm:(0:Int)≤(i:Int)∧(i:Int)<(AJ.length:Int):=by omega
       have On:=AR AJ i 0 hit;have B4:∀y,AJ.getD i 0=y→(!(decide (y< -9999)||decide (9999<y)))=false→AJ.all (fun n=>!(decide (n< -9999)||decide (9999<n)))=false:=by
         intro y hy hf;rw[List.all_eq_false];exact ⟨_,A7 AJ i 0 hit,by rw[hy,hf];simp⟩
       generalize AJ.getD i 0=y at*;cases c7:decide (y< -9999)
       · cases c8:decide (9999<y)
         · simp only[go_sem,c6,Ab,Int.toNat_natCast,hg,Bm,c7,c8,As i (by omega)];refine ih (i+1) _ ⟨hit,by rw[On,List.all_append,hb];simp[c7,c8]⟩ (by omega) (Wk.forget (by simp[Le,AG,Av,get,Aa,Ac,Ad,D.ids,Ai,AO.ids,Ae,base]))
         · simp only[go_sem,c6,Ab,Int.toNat_natCast,hg,Bm,c7,c8];rw[B4 y rfl (by rw[c7,c8];rfl)];try rfl
       · simp only[go_sem,c6,Ab,Int.toNat_natCast,hg,Bm,c7];rw[B4 y rfl (by rw[c7];rfl)];try rfl
   · have hit:i<names.length:=by have:=of_decide_eq_true c5;omega
     have hg:=BT names i hit;have Bm:(0:Int)≤(i:Int)∧(i:Int)<(names.length:Int):=by omega
     have On:=AR names i [] hit;have B4:∀y,names.getD i []=y→Bs y=false→names.all Bs=false:=by
       intro y hy hf;rw[List.all_eq_false];exact ⟨_,A7 names i [] hit,by rw[hy,hf];simp⟩
     generalize names.getD i []=y at*;simp only[go_sem,c5,Aq,Int.toNat_natCast,hg,Bm];refine Au ((WJ y)) ?_;rintro h' r ⟨rfl,rfl⟩;cases c6:Bs y
     · simp only[go_sem];rw[B4 y rfl c6];try rfl
     · simp only[go_sem,As i (by omega)];refine ih (i+1) _ ⟨hit,by rw[On,List.all_append,ha];simp[c6]⟩ (by omega) (Wk.forget (by simp[Le,AG,Av,get,Aa,Ac,Ad,D.ids,Ai,AO.ids,Ae,base]))
theorem Amz (d:List Dc) (hd:d.length≤10000000) (hs:∀x∈d,x.names.length≤10000000∧x.AJ.length≤10000000):
   Aj Tryz.prog 54 [.p (.sl (BO d))] [] fun h r=>h=[]∧r=An0 (IP d []):=by
 refine Ak Tryz.func54 rfl Aiy (by simp[Tryz.f54]) ?_;simp only[go_sem,A8];refine Ao (fun q:Nat×List Ln=>⟨[(0,.p (.sl (BO d))),(5,.p (.int .i64 (q.1:Nat))),(4,.ref 66 0 q.2.length q.2.length)],[(66,.arr 80 2 (CN q.2))],68⟩)
   (fun q=>q.1≤d.length∧q.2.length≤q.1∧IP (d.drop q.1) q.2=IP d []) (fun q=>d.length - q.1) (0,[]) ⟨Nat.zero_le _,by simp,by simp⟩ ((Wk.nil (t:=4) (q:=66) (sz:=2) 80 rfl rfl (by decide)).trans (Wk.forget (by simp[Le,AG,Av,get,Aa,Ac,Ad,D.ids,Ai,AO.ids,Ae,base,CN]))) ?_
 rintro ⟨i,acc⟩ n ⟨hi,ha,he⟩ ih;simp only at hi ha he;cases c1:decide ((i:Int)<(d.length:Int))
 · have:i=d.length:=by have:=of_decide_eq_false c1;omega
   subst this;simp only[go_sem,A8,c1];refine Ah ?_;simp only[go_sem];rw[List.drop_length] at he;simp only[IP] at he;rw[←he,Pg _ _ (Nat.le_refl _)];exact ⟨(A5 acc).symm,rfl⟩
 have AL:i<d.length:=by have:=of_decide_eq_true c1;omega
 have hw:=As i (by omega);have RH:=Bn d i Im AL;rw[RH] at he;have hx:=hs _ (A7 d i Im AL);have hg:=R9 d i AL;generalize hxe:d.getD i Im=x at*;have Bm:(0:Int)≤(i:Int)∧(i:Int)<(d.length:Int):=by omega
 simp only[go_sem,A8,Int.toNat_natCast,hg,Bm,c1];refine Au ((w9 x ⟨hx.1,hx.2⟩)) ?_;rintro h' r ⟨rfl,rfl⟩;cases hv:BD x
 · simp only[go_sem];refine Ah ?_;simp only[go_sem];simp only[IP,hv] at he;rw[←he];rfl
 obtain ⟨NL,TS,hw3,Zn,hw5⟩:=(EC x).1 hv;obtain ⟨word,line,names,AJ⟩:=x;simp only at NL TS hw3 Zn hw5 hx hg;obtain ⟨j,rfl⟩:∃j:Nat,word=(j:Int):=⟨word.toNat,by omega⟩;have hfw:[[Pd.str (Ct j).word]]++AV names=AV ((Ct j).word::names):=rfl;have W1:I1 1 (AV names):=by simp[I1,AV]
 simp only[go_sem];refine AY mixed (p:=[(0,0),(1,0),(2,0),(3,0),(4,0),(5,0),(6,0),(7,0),(8,0),(9,0),(12,0),(13,0),(14,0),(15,0),(16,0),(19,1),(10,2),(11,1),(17,2),(18,0),(20,3)]) (by kernel_rfl) (by simp[Av,get]) ?_;simp only[go_sem,A8,Int.toNat_natCast,hg,Bm];refine Bu ((Afd j (by omega) (by omega))) ?_;rintro h' r ⟨rfl,rfl⟩;simp only[go_sem,A8,Int.toNat_natCast,hg,Bm,hfw,Aq];refine ⟨⟨W1,by omega,by omega⟩,?_⟩;refine Ao (fun q:Nat×List (List UInt8)=>⟨[(0,.p (.sl (BO d))),(5,.p (.int .i64 (i:Nat))),(4,.ref 66 0 acc.length acc.length),(6,.ptr 6 0),(7,.p (.int .i64 (q.1:Nat)))],
     [(6,.box [.p (.int .i64 line),.ref 31 0 q.2.length q.2.length]),(31,.arr 9 1 (AV q.2)),(66,.arr 80 2 (CN acc))],68⟩)
   (fun q=>q.1≤AJ.length∧q.2.length≤10000001+q.1∧q.2++(AJ.drop q.1).map MQ=CT ⟨j,line,names,AJ⟩) (fun q=>AJ.length - q.1) (0,(Ct j).word::names) ⟨Nat.zero_le _,by simp;omega,by simp[CT]⟩
   (Wk.forget (by simp[Le,AG,Av,get,Aa,Ac,Ad,D.ids,Ai,AO.ids,Ae,base,Ab,AV])) ?_
 rintro ⟨m,fs⟩ n2 ⟨hm,hfs,he2⟩ Fi;simp only at hm hfs he2;cases c2:decide ((m:Int)<(AJ.length:Int));rotate_left
 · have Zt:m<AJ.length:=by have:=of_decide_eq_true c2;omega
   have hwm:=As m (by omega);have hgm:=AD AJ m Zt;have hnm:=hw5 _ (A7 AJ m 0 Zt);rw[Bn AJ m 0 Zt] at he2;generalize hk:AJ.getD m 0=k at*;have hm0:(0:Int)≤(m:Int)∧(m:Int)<(AJ.length:Int):=by omega
   simp only[go_sem,Ab,A8,Int.toNat_natCast,hg,Bm,hgm,hm0,c2];refine BB [(6,.box [.p (.int .i64 line),.ref 31 0 fs.length fs.length])] mixed (p:=[(0,0),(1,0),(2,0),(3,0),(4,0),(5,0),(6,0),(7,0),(8,0),(9,0),(10,2),(11,1),(12,2),(13,0),(14,3)]) (by kernel_rfl) (by simp[Av,get]) ?_;simp only[go_sem,Ab,A8,Int.toNat_natCast,hg,Bm,hgm,hm0];refine Bu ((Ae2 k (by omega) (by omega))) ?_;rintro h' r ⟨rfl,rfl⟩;simp only[go_sem,Aq];refine ⟨⟨Cf _ _ rfl,by omega⟩,?_⟩;simp only[go_sem,hwm];refine Fi (m+1,fs++[MQ k]) _ ⟨Zt,by simp;omega,by rw[←he2];simp⟩ (by simp only;omega) ?_
   (refine Wk.forget ?_;simp[Le,AG,Av,get,Aa,Ac,Ad,D.ids,Ai,AO.ids,Ae,base,CP,Aq];done)
 · have hml:m=AJ.length:=by have:=of_decide_eq_false c2;omega
   subst hml;simp only[List.drop_length,List.map_nil,List.append_nil] at he2;simp only[go_sem,Aq,A5,Ab,A8,Int.toNat_natCast,hg,Bm,G5 fs fs.length (Nat.le_refl _),hw,c2];refine ⟨⟨Cf _ _ rfl,by omega⟩,?_⟩;simp only[IP,hv,if_true] at he;refine ih (i+1,acc++[⟨line,fs⟩]) _ ⟨AL,by simp;omega,by rw[he2];exact he⟩ (by simp only;omega) ?_
   (refine Wk.forget ?_;simp[Le,AG,Av,get,Aa,Ac,Ad,D.ids,Ai,AO.ids,Ae,base,IS,A5];done)
theorem V3 (l:List (List UInt8)) (x:List UInt8) (h:l≠[]):Cg (l++[x])=Cg l++[32]++x:=by
 cases l with
 | nil=>exact (h rfl).elim
 | cons y r=>simp[Cg]
theorem j8 (a b:List (List UInt8)):HN (a++b)=HN a+HN b:=by
 induction a with
 | nil=>simp[HN]
 | cons x r ih=>simp only[List.cons_append,HN,ih];omega
theorem Afg (l:List (List UInt8)) (i:Nat):HN (l.take i)≤HN l:=by
 have:=j8 (l.take i) (l.drop i);rw[List.take_append_drop] at this;omega
theorem u7 (l:List (List UInt8)):(Cg l).length≤HN l:=by
 cases l with
 | nil=>simp[Cg,HN]
 | cons x r=>have:=Ha (x::r) (by simp);omega
theorem Af5 (fs:List (List UInt8)) (hl:fs.length≤100000000) (hs:HN fs≤1000000000000):Aj Tryz.prog 101 [.p (.sl (AV fs))] [] fun h r=>h=[]∧r= .p (.str (Cg fs)):=by
 refine Ak Tryz.func101 rfl Ado (by simp[Tryz.f101]) ?_;simp only[go_sem];refine Ao (fun i:Nat=>⟨[(0,.p (.sl (AV fs))),(3,.p (.str (Cg (fs.take i)))),(4,.p (.int .i64 (i:Nat)))],[],22⟩) (fun i=>i≤fs.length) (fun i=>fs.length - i) 0 (Nat.zero_le _) (Wk.forget (by simp[Le,AG,Av,get,Aa,Ac,Ad,D.ids,Ai,AO.ids,Ae,base,List.take_zero,Cg])) ?_;intro i n hi ih;simp only[go_sem,Aq];refine AK (fun h1=>?_) (fun h1=>?_)
 · have AL:i<fs.length:=by simp at h1;omega
   have Bm:(0:Int)≤(i:Int)∧(i:Int)<(fs.length:Int):=by omega
   have hw:=As i (by omega);have hg:=BT fs i AL;have htk:fs.take (i+1)=fs.take i++[fs.getD i []]:=by
     rw[List.take_succ_eq_append_getElem AL];simp[List.getD,AL]
   have Asw:=Afg fs (i+1);have Zp:=u7 (fs.take i);rw[htk,j8] at Asw;generalize hx:fs.getD i []=x at*;simp only[HN] at Asw;by_cases h0:i=0
   · subst h0;have hx0:fs.take (0+1)=[x]:=by rw[htk];simp
     have hd:(0:Int)<(fs.length:Int):=by omega
     have Ami:IntKind.i64.wrap 1=1:=rfl;simp only[go_sem,Aq,Int.toNat_natCast,hg,hd,Int.reduceToNat,List.take_zero,Cg];refine ⟨by unfold maxLen;simp[Cg];omega,?_⟩;refine ih (0+1) _ AL (by omega) (Wk.forget (by simp[Le,AG,Av,get,Aa,Ac,Ad,D.ids,Ai,AO.ids,Ae,base,hx0,Cg,List.flatMap_nil,Ami]))
   · have BC:fs.take i≠[]:=by
       intro h;have:=congrArg List.length h;simp at this;rcases this with h | h
       · exact h0 h
       · subst h;simp at AL
     have hd:(0:Int)<(i:Int):=by omega
     have hsn:=V3 (fs.take i) x BC;rw[←htk] at hsn;simp only[go_sem,Aq,Int.toNat_natCast,hg,hd,Bm];refine ⟨by unfold maxLen;simp;omega,by unfold maxLen;simp;omega,?_⟩;simp only[go_sem,hw];refine ih (i+1) _ AL (by omega) (Wk.forget (by simp[Le,AG,Av,get,Aa,Ac,Ad,D.ids,Ai,AO.ids,Ae,base,hsn]))
 · have TW:i=fs.length:=by simp at h1;omega
   subst TW;simp only[go_sem,List.take_length]
theorem Ac6 (l:List Ln) (hl:l.length≤4000000∧∀x∈l,x.fs.length≤4000000∧∀s∈x.fs,s.length≤4000000):Aj Tryz.prog 100 [.p (.sl (CN l))] [] fun h r=>h=[]∧r= .p (.bool (B2 0 l)):=by
 obtain ⟨hl,hz⟩:=hl;refine Ak Tryz.func100 rfl Adp (by simp[Tryz.f100]) ?_;simp only[go_sem];refine Ao (fun i:Nat=>⟨[(0,.p (.sl (CN l))),(3,.p (.int .i64 (i:Nat)))],[],82⟩)
   (fun i=>i≤l.length∧(i=0∨(0<i∧1≤(l.getD (i - 1) TE).num))∧B2 (if i=0 then 0 else (l.getD (i - 1) TE).num) (l.drop i)=B2 0 l) (fun i=>l.length - i) 0 ⟨Nat.zero_le _,.inl rfl,by simp⟩ (Wk.forget (by simp[Le,AG,Av,get,Aa,Ac,Ad,D.ids,Ai,AO.ids,Ae,base])) ?_
 rintro i n ⟨hi,W8,hf⟩ ih;simp only[go_sem,A5];refine AK (fun h1=>?_) (fun h1=>?_);rotate_left
 · have TW:i=l.length:=by simp at h1;omega
   subst TW;simp only[go_sem];rw[←hf];simp[B2]
 have AL:i<l.length:=by simp at h1;omega
 have Bm:(0:Int)≤(i:Int)∧(i:Int)<(l.length:Int):=by omega
 have hw:=As i (by omega);have hg:=IT l i AL;have hzx:=hz _ (A7 l i TE AL);rw[Bn l i TE AL] at hf;generalize hx:l.getD i TE=x at*;obtain ⟨num,fs⟩:=x;simp only at hg hzx;rcases W8 with h0 | ⟨h0,hp1⟩
 · simp only[h0,if_true] at hf;rw[←h0] at hf;have HP:¬(0:Int)<(i:Int):=by omega
   simp only[go_sem];refine AY mixed (p:=[(0,0),(1,0),(2,0),(3,0),(4,0),(5,0),(6,0),(7,0),(8,0),(9,0),(10,0),(11,0),(12,0),(13,0),(14,0),(15,0),(16,0),(17,0),(18,0),(19,0),(20,0),(21,0),(22,0),(23,0),(24,0),(25,0),(26,0),(27,0),(28,0),(29,0),(30,0),(31,0),(32,0)]) (by kernel_rfl) (by simp[Av,get]) ?_;by_cases c1:num<1
   · simp only[go_sem,A5,Int.toNat_natCast,hg,Bm,HP,c1];have:¬0<num:=by omega
     rw[←hf];simp[B2,this]
   by_cases c2:(fs.length:Int)=0
   · simp only[go_sem,A5,Aq,Int.toNat_natCast,hg,Bm,HP,c1,c2];have:fs=[]:=List.eq_nil_of_length_eq_zero (by omega);rw[←hf];simp[B2,this]
   simp only[go_sem,A5,Aq,Int.toNat_natCast,hg,Bm,HP,c1,c2];have BC:fs≠[]:=by rintro rfl;simp at c2
   have RD:0<num:=by omega
   have h1n:1≤num:=by omega
   refine Ao (fun j:Nat=>⟨[(0,.p (.sl (CN l))),(3,.p (.int .i64 (i:Nat))),(4,.p (.int .i64 (j:Nat)))],[],82⟩) (fun j=>j≤fs.length∧(fs.drop j).all Cr=fs.all Cr) (fun j=>fs.length - j) 0 ⟨Nat.zero_le _,by simp⟩ (Wk.forget (by simp[Le,AG,Av,get,Aa,Ac,Ad,D.ids,Ai,AO.ids,Ae,base])) ?_;rintro j n2 ⟨hj,Fe⟩ Fi;simp only[go_sem,A5,Int.toNat_natCast,hg,Bm,Aq];refine AK (fun h2=>?_) (fun h2=>?_)
   · have Oo:j<fs.length:=by simp at h2;omega
     have TV:(0:Int)≤(j:Int)∧(j:Int)<(fs.length:Int):=by omega
     have TQ:=As j (by omega);have hgj:=BT fs j Oo;have hsx:=hzx.2 _ (A7 fs j [] Oo);rw[Bn fs j [] Oo] at Fe;generalize fs.getD j []=s at*;simp only[go_sem,A5,Int.toNat_natCast,hg,Bm,Aq,hgj,TV];have ZV:Cr s=false→B2 0 l=false:=fun h=>by
       have:fs.all Cr=false:=by rw[←Fe];simp[h]
       rw[←hf];simp[B2,this]
     by_cases Yn:s=[]
     · subst Yn;simp only[go_sem];rw[ZV rfl]
     by_cases Abu:(12:Int)<(s.length:Int)
     · simp only[go_sem,Yn,Abu];have:¬s.length≤12:=by omega
       rw[ZV (by simp[Cr,this])]
     simp only[go_sem,Yn,Abu];have Ah7:s.length≤12:=by omega
     have hpp:Cr s=s.all fun b=>DM b.toNat:=by simp[Cr,Yn,Ah7]
     refine Ao (fun q:Nat=>⟨[(0,.p (.sl (CN l))),(3,.p (.int .i64 (i:Nat))),(4,.p (.int .i64 (j:Nat))),(5,.p (.str s)),(6,.p (.int .i64 (q:Nat)))],[],82⟩) (fun q=>q≤s.length∧((s.drop q).all fun b=>DM b.toNat)=Cr s) (fun q=>s.length - q) 0 ⟨Nat.zero_le _,by simp[hpp]⟩ (Wk.forget (by simp[Le,AG,Av,get,Aa,Ac,Ad,D.ids,Ai,AO.ids,Ae,base])) ?_;rintro q n3 ⟨hq,hqa⟩ ih3;simp only[go_sem];refine AK (fun h3=>?_) (fun h3=>?_)
     · have hqt:q<s.length:=by simp at h3;omega
       have hq0:(0:Int)≤(q:Int)∧(q:Int)<(s.length:Int):=by omega
       have hwq:=As q (by omega);rw[Bn s q 0 hqt] at hqa;generalize hb:s.getD q 0=b at*;simp only[go_sem,Int.toNat_natCast,hq0,hb];refine Au ((P6 (b.toNat:Int))) ?_;rintro h' r ⟨rfl,rfl⟩;cases ha:DM b.toNat
       · simp only[go_sem,ha];rw[ZV (by rw[←hqa];simp[ha])]
       · simp only[go_sem,ha,hwq];refine ih3 (q+1) _ ⟨hqt,by rw[←hqa];simp[ha]⟩ (by omega) (Wk.forget (by simp[Le,AG,Av,get,Aa,Ac,Ad,D.ids,Ai,AO.ids,Ae,base]))
     · have hqe:q=s.length:=by simp at h3;omega
       subst hqe;rw[List.drop_length] at hqa;simp only[List.all_nil] at hqa;simp only[go_sem,TQ];refine Fi (j+1) _ ⟨Oo,by rw[←Fe];simp[←hqa]⟩ (by omega) (Wk.forget (by simp[Le,AG,Av,get,Aa,Ac,Ad,D.ids,Ai,AO.ids,Ae,base]))
   · have hje:j=fs.length:=by simp at h2;omega
     subst hje;rw[List.drop_length] at Fe;simp only[List.all_nil] at Fe;simp only[go_sem,hw];refine ih (i+1) _ ⟨AL,.inr ⟨by omega,by rw[Nat.add_sub_cancel,hx];simp only;omega⟩,?_⟩ (by omega) (Wk.forget (by simp[Le,AG,Av,get,Aa,Ac,Ad,D.ids,Ai,AO.ids,Ae,base]));rw[←hf,if_neg (by omega),Nat.add_sub_cancel,hx];simp only[B2,←Fe,BC,RD,decide_true,Bool.true_and,ne_eq,not_false_eq_true]
 · rw[if_neg (by omega)] at hf;have hgp:=IT l (i - 1) (by omega);generalize hy:l.getD (i - 1) TE=y at*;obtain ⟨pn,pf⟩:=y;simp only at hgp hf hp1;have HP:(0:Int)<(i:Int):=by omega
   have hip:(0:Int)≤((i - 1:Nat):Int)∧((i - 1:Nat):Int)<(l.length:Int):=by omega
   have hwp:IntKind.i64.wrap ((i:Int) - 1)=((i - 1:Nat):Int):=by rw[An]<;>omega
   simp only[go_sem];refine AY mixed (p:=[(0,0),(1,0),(2,0),(3,0),(4,0),(5,0),(6,0),(7,0),(8,0),(9,0),(10,0),(11,0),(12,0),(13,0),(14,0),(15,0),(16,0),(17,0),(18,0),(19,0),(20,0),(21,0),(22,0),(23,0),(24,0),(25,0),(26,0),(27,0),(28,0),(29,0),(30,0),(31,0),(32,0)]) (by kernel_rfl) (by simp[Av,get]) ?_;by_cases c1:num<1
   · simp only[go_sem,A5,Int.toNat_natCast,hg,Bm,HP,c1];have:¬pn<num:=by omega
     rw[←hf];simp[B2,this]
   by_cases c0:num≤pn
   · simp only[go_sem,A5,Int.toNat_natCast,hg,Bm,HP,c1,hwp,hip,hgp,c0];have:¬pn<num:=by omega
     rw[←hf];simp[B2,this]
   by_cases c2:(fs.length:Int)=0
   · simp only[go_sem,A5,Aq,Int.toNat_natCast,hg,Bm,HP,c1,c2,hwp,hip,hgp,c0];have:fs=[]:=List.eq_nil_of_length_eq_zero (by omega);rw[←hf];simp[B2,this]
   simp only[go_sem,A5,Aq,Int.toNat_natCast,hg,Bm,HP,c1,c2,hwp,hip,hgp,c0];have BC:fs≠[]:=by rintro rfl;simp at c2
   have RD:pn<num:=by omega
   have h1n:1≤num:=by omega
   refine Ao (fun j:Nat=>⟨[(0,.p (.sl (CN l))),(3,.p (.int .i64 (i:Nat))),(4,.p (.int .i64 (j:Nat)))],[],82⟩) (fun j=>j≤fs.length∧(fs.drop j).all Cr=fs.all Cr) (fun j=>fs.length - j) 0 ⟨Nat.zero_le _,by simp⟩ (Wk.forget (by simp[Le,AG,Av,get,Aa,Ac,Ad,D.ids,Ai,AO.ids,Ae,base])) ?_;rintro j n2 ⟨hj,Fe⟩ Fi;simp only[go_sem,A5,Int.toNat_natCast,hg,Bm,Aq];refine AK (fun h2=>?_) (fun h2=>?_)
   · have Oo:j<fs.length:=by simp at h2;omega
     have TV:(0:Int)≤(j:Int)∧(j:Int)<(fs.length:Int):=by omega
     have TQ:=As j (by omega);have hgj:=BT fs j Oo;have hsx:=hzx.2 _ (A7 fs j [] Oo);rw[Bn fs j [] Oo] at Fe;generalize fs.getD j []=s at*;simp only[go_sem,A5,Int.toNat_natCast,hg,Bm,Aq,hgj,TV];have ZV:Cr s=false→B2 0 l=false:=fun h=>by
       have:fs.all Cr=false:=by rw[←Fe];simp[h]
       rw[←hf];simp[B2,this]
     by_cases Yn:s=[]
     · subst Yn;simp only[go_sem];rw[ZV rfl]
     by_cases Abu:(12:Int)<(s.length:Int)
     · simp only[go_sem,Yn,Abu];have:¬s.length≤12:=by omega
       rw[ZV (by simp[Cr,this])]
     simp only[go_sem,Yn,Abu];have Ah7:s.length≤12:=by omega
     have hpp:Cr s=s.all fun b=>DM b.toNat:=by simp[Cr,Yn,Ah7]
     refine Ao (fun q:Nat=>⟨[(0,.p (.sl (CN l))),(3,.p (.int .i64 (i:Nat))),(4,.p (.int .i64 (j:Nat))),(5,.p (.str s)),(6,.p (.int .i64 (q:Nat)))],[],82⟩) (fun q=>q≤s.length∧((s.drop q).all fun b=>DM b.toNat)=Cr s) (fun q=>s.length - q) 0 ⟨Nat.zero_le _,by simp[hpp]⟩ (Wk.forget (by simp[Le,AG,Av,get,Aa,Ac,Ad,D.ids,Ai,AO.ids,Ae,base])) ?_;rintro q n3 ⟨hq,hqa⟩ ih3;simp only[go_sem];refine AK (fun h3=>?_) (fun h3=>?_)
     · have hqt:q<s.length:=by simp at h3;omega
       have hq0:(0:Int)≤(q:Int)∧(q:Int)<(s.length:Int):=by omega
       have hwq:=As q (by omega);rw[Bn s q 0 hqt] at hqa;generalize hb:s.getD q 0=b at*;simp only[go_sem,Int.toNat_natCast,hq0,hb];refine Au ((P6 (b.toNat:Int))) ?_;rintro h' r ⟨rfl,rfl⟩;cases ha:DM b.toNat
       · simp only[go_sem,ha];rw[ZV (by rw[←hqa];simp[ha])]
       · simp only[go_sem,ha,hwq];refine ih3 (q+1) _ ⟨hqt,by rw[←hqa];simp[ha]⟩ (by omega) (Wk.forget (by simp[Le,AG,Av,get,Aa,Ac,Ad,D.ids,Ai,AO.ids,Ae,base]))
     · have hqe:q=s.length:=by simp at h3;omega
       subst hqe;rw[List.drop_length] at hqa;simp only[List.all_nil] at hqa;simp only[go_sem,TQ];refine Fi (j+1) _ ⟨Oo,by rw[←Fe];simp[←hqa]⟩ (by omega) (Wk.forget (by simp[Le,AG,Av,get,Aa,Ac,Ad,D.ids,Ai,AO.ids,Ae,base]))
   · have hje:j=fs.length:=by simp at h2;omega
     subst hje;rw[List.drop_length] at Fe;simp only[List.all_nil] at Fe;simp only[go_sem,hw];refine ih (i+1) _ ⟨AL,.inr ⟨by omega,by rw[Nat.add_sub_cancel,hx];simp only;omega⟩,?_⟩ (by omega) (Wk.forget (by simp[Le,AG,Av,get,Aa,Ac,Ad,D.ids,Ai,AO.ids,Ae,base]));rw[←hf,if_neg (by omega),Nat.add_sub_cancel,hx];simp only[B2,←Fe,BC,RD,decide_true,Bool.true_and,ne_eq,not_false_eq_true]
theorem Agw (l:List Ln) (hl:l.length≤4000000∧∀x∈l,x.fs.length≤4000000∧x.num≤9223372036854775807∧∀s∈x.fs,s.length≤4000000):Aj Tryz.prog 55 [.p (.sl (CN l))] [] fun h r=>h=[]∧r=o6 (Fs l):=by
 refine Ak Tryz.func55 rfl Aix (by simp[Tryz.f55]) ?_;simp only[go_sem];refine Au ((Ac6 l ⟨hl.1,fun x hx=>⟨(hl.2 x hx).1,(hl.2 x hx).2.2⟩⟩)) ?_;rintro h' r ⟨rfl,rfl⟩;obtain ⟨hl,hz⟩:=hl;cases Fv:B2 0 l
 · simp only[go_sem,Fv];rw[show Fs l=([],20) by simp[Fs,Fv]];refine Ah ?_;simp only[go_sem];rfl
 simp only[go_sem,Fv];have big:6000<(CQ 1 l).length→Fs l=([],1):=fun h=>by simp[Fs,Fv,h]
 refine Ao (fun q:Nat×Nat×List UInt8=>⟨[(0,.p (.sl (CN l))),(4,.p (.str q.2.2)),(5,.p (.int .i64 (q.2.1:Nat))),(6,.p (.int .i64 (q.1:Nat)))],[],50⟩)
   (fun q=>q.1≤l.length∧(1≤q.2.1∧q.2.1≤q.2.2.length+1∧q.2.2.length≤6000)∧B2 ((q.2.1 - 1:Nat):Int) (l.drop q.1)=true∧q.2.2++CQ q.2.1 (l.drop q.1)=CQ 1 l) (fun q=>l.length - q.1) (0,1,[])
   ⟨Nat.zero_le _,by simp,by simpa using Fv,by simp⟩ (Wk.forget (by simp[Le,AG,Av,get,Aa,Ac,Ad,D.ids,Ai,AO.ids,Ae,base])) ?_
 rintro ⟨i,num,Yi⟩ n ⟨hi,Rz,hf,ht⟩ ih;simp only at hi Rz hf ht;simp only[go_sem,A5];refine AK (fun h1=>?_) (fun h1=>?_);rotate_left
 · have TW:i=l.length:=by simp at h1;omega
   subst TW;rw[List.drop_length] at ht;simp only[CQ,List.append_nil] at ht;subst ht;simp only[go_sem];have TV:Fs l=(CQ 1 l,0):=by
     have:¬6000<(CQ 1 l).length:=by omega
     simp[Fs,Fv,this]
   rw[TV];refine Ah ?_;simp only[go_sem];rfl
 have AL:i<l.length:=by simp at h1;omega
 have Bm:(0:Int)≤(i:Int)∧(i:Int)<(l.length:Int):=by omega
 have hw:=As i (by omega);have hg:=IT l i AL;have hzx:=hz _ (A7 l i TE AL);rw[Bn l i TE AL] at hf ht;generalize l.getD i TE=x at*;obtain ⟨xn,fs⟩:=x;obtain ⟨f1,f2,f3,f4⟩:=Hy.1 hf;simp only at hg hzx f1 f2 f3 f4;obtain ⟨m,rfl⟩:∃m:Nat,xn=(m:Int):=⟨xn.toNat,by omega⟩;simp only[CQ,Int.toNat_natCast] at ht;have hlen:=congrArg List.length ht;simp only[List.length_append,List.length_replicate,List.length_cons] at hlen;have hwl:=Ha fs f2;have hle:num≤m:=by omega
 have hws:IntKind.i64.wrap ((m:Int) - (num:Int))=((m - num:Nat):Int):=by rw[An]<;>omega
 by_cases Atp:(6000:Int)<((m - num:Nat):Int)
 · simp only[go_sem,A5,Int.toNat_natCast,hg,Bm,hws,Atp];rw[big (by omega)];refine Ah ?_;simp only[go_sem];rfl
 simp only[go_sem,A5,Int.toNat_natCast,hg,Bm,hws,Atp];have hwords:HN fs≤60000000:=by
   have key:∀r:List (List UInt8),(∀s∈r,Cr s=true)→HN r≤13*r.length:=by
     intro r
     induction r with
     | nil=>intro _;simp[HN]
     | cons s r ih=>intro h;have h1:=ih (fun y hy=>h y (by simp[hy]));have h2:=(Ix.1 (h s (by simp))).2.1;simp only[HN,List.length_cons];omega
   have:=key fs f3;omega
 refine Ao (fun q:Nat=>⟨[(0,.p (.sl (CN l))),(4,.p (.str (Yi++List.replicate (q - num) 10))),(5,.p (.int .i64 (q:Nat))),(6,.p (.int .i64 (i:Nat)))],[],50⟩) (fun q=>num≤q∧q≤m) (fun q=>m - q) num ⟨Nat.le_refl _,hle⟩ (Wk.forget (by simp[Le,AG,Av,get,Aa,Ac,Ad,D.ids,Ai,AO.ids,Ae,base,Nat.sub_self,List.replicate_zero,List.append_nil])) ?_;rintro q n2 ⟨Yq,Yp⟩ Fi;simp only[go_sem,A5,Int.toNat_natCast,hg,Bm];refine AK (fun h2=>?_) (fun h2=>?_)
 · have hqm:q<m:=by simp at h2;omega
   have hwq:=As q (by omega);have Abv:Yi++List.replicate (q - num) 10++[10]=Yi++List.replicate (q+1 - num) (10:UInt8):=by
     rw[show q+1 - num=(q - num)+1 by omega,List.replicate_succ',List.append_assoc]
   simp only[go_sem,hwq];refine ⟨by unfold maxLen;simp;omega,?_⟩;refine Fi (q+1) _ ⟨by omega,by omega⟩ (by omega) (Wk.forget (by simp[Le,AG,Av,get,Aa,Ac,Ad,D.ids,Ai,AO.ids,Ae,base,Abv]))
 · have hqe:q=m:=by simp at h2;omega
   subst hqe;have hwq:=As q (by omega);simp only[go_sem,A5,Int.toNat_natCast,hg,Bm];refine Au ((Af5 fs (by omega) (by omega))) ?_;rintro h' r ⟨rfl,rfl⟩;simp only[go_sem];refine ⟨by unfold maxLen;simp;omega,by unfold maxLen;simp;omega,?_⟩;have htx:Yi++List.replicate (q - num) 10++(Cg fs++[10])++CQ (q+1) (l.drop (i+1))=CQ 1 l:=by rw[←ht];simp
   have hlen2:(Yi++List.replicate (q - num) 10++(Cg fs++[10])).length=Yi.length+(q - num)+((Cg fs).length+1):=by simp;omega
   generalize Yi++List.replicate (q - num) 10++(Cg fs++[10])=t2 at*;have Atj:=congrArg List.length htx;rw[List.length_append] at Atj;by_cases ZA:(6000:Int)<(t2.length:Int)
   · simp only[go_sem,hwq,ZA];rw[big (by omega)];refine Ah ?_;simp only[go_sem];rfl
   · simp only[go_sem,hwq,ZA,hw];refine ih (i+1,q+1,t2) _ ⟨AL,⟨by simp only;omega,by simp only;omega,by simp only;omega⟩,by simpa using f4,htx⟩ (by simp only;omega) (Wk.forget (by simp[Le,AG,Av,get,Aa,Ac,Ad,D.ids,Ai,AO.ids,Ae,base]))
def Fq {σ ε:Type} (f:σ→Option ε):σ⊕ε→Option ε
 | .inl s=>f s
 | .inr e=>some e
theorem At {σ ε:Type} (f:σ→Option ε) (s:σ):Fq f (.inl s)=f s:=rfl
theorem Ar {σ ε:Type} (f:σ→Option ε) (e:ε):Fq f (.inr e)=some e:=rfl
def EH {σ ε:Type} (step:σ→Option (σ⊕ε)):Nat→σ→Option ε
 | 0,_=>none
 | n+1,s=>(step s).bind (Fq (EH step n))
noncomputable def AS {σ ε:Type} (step:σ→Option (σ⊕ε)) (s:σ):Option ε:=
 open Classical in if h:∃n e,EH step n s=some e then some (Classical.choose (Classical.choose_spec h)) else none
theorem My {σ ε:Type} {step:σ→Option (σ⊕ε)}:∀{n m:Nat} {s:σ} {e:ε},EH step n s=some e→n≤m→EH step m s=some e
 | 0,_,_,_,h,_=>by simp[EH] at h
 | n+1,0,_,_,_,h=>by omega
 | n+1,m+1,s,e,h,hm=>by
   simp only[EH] at h ⊢;cases hs:step s with
   | none=>rw[hs] at h;simp at h
   | some y=>
     rw[hs] at h;cases y with
     | inl s'=>exact My (n:=n) (m:=m) (by simpa [Fq] using h) (by omega)
     | inr e'=>simpa [Fq] using h
theorem IC {σ ε:Type} {step:σ→Option (σ⊕ε)} {s:σ} {e:ε}:AS step s=some e↔∃n,EH step n s=some e:=by
 constructor
 · intro h;unfold AS at h;split at h
   · rename_i hh;have h1:=Classical.choose_spec (Classical.choose_spec hh);rw[Option.some.inj h] at h1;exact ⟨_,h1⟩
   · cases h
 · rintro ⟨n,hn⟩;unfold AS;have hh:∃n e,EH step n s=some e:=⟨n,e,hn⟩;rw[dif_pos hh];have h1:=Classical.choose_spec (Classical.choose_spec hh);have a:=My h1 (Nat.le_max_left _ n);have b:=My hn (Nat.le_max_right (Classical.choose hh) n);rw[a] at b;exact b
theorem Bx {σ ε:Type} (step:σ→Option (σ⊕ε)) (s:σ):AS step s=(step s).bind (Fq (AS step)):=by
 apply Option.ext;intro e;rw[IC];constructor
 · rintro ⟨n,hn⟩;cases n with
   | zero=>simp[EH] at hn
   | succ n=>
     simp only[EH] at hn;cases hs:step s with
     | none=>rw[hs] at hn;simp at hn
     | some y=>
       rw[hs] at hn;cases y with
       | inl s'=>exact IC.2 ⟨n,by simpa [Fq] using hn⟩
       | inr e'=>simpa [Fq] using hn
 · intro h;cases hs:step s with
   | none=>rw[hs] at h;simp at h
   | some y=>
     rw[hs] at h;cases y with
     | inl s'=>
       obtain ⟨n,hn⟩:=IC.1 (show AS step s'=some e by simpa [Fq] using h);exact ⟨n+1,by simpa [EH,hs,Fq] using hn⟩
     | inr e'=>exact ⟨1,by simpa [EH,hs,Fq] using h⟩
theorem OR {σ ε:Type} {step:σ→Option (σ⊕ε)} (I:σ→Prop) (μ:σ→Nat) (Q:ε→Prop)
   (h:∀s,I s→∃y,step s=some y∧match y with | .inl s'=>I s'∧μ s'<μ s | .inr e=>Q e) (s:σ) (h0:I s):∃e,AS step s=some e∧Q e:=by
 have key:∀n s,I s→μ s<n→∃e,AS step s=some e∧Q e:=by
   intro n
   induction n with
   | zero=>intro s _ h;omega
   | succ n ih=>
     intro s hs hm;obtain ⟨y,h1,h2⟩:=h s hs;rw[Bx,h1];cases y with
     | inl s'=>exact ih s' h2.1 (by have:=h2.2;omega)
     | inr e=>exact ⟨e,rfl,h2⟩
 exact key _ s h0 (Nat.lt_succ_self _)
theorem OS {σ ε:Type} {step:σ→Option (σ⊕ε)} (n:Nat) (S:Nat→σ) (out:ε) (early:Nat→Option ε)
   (h1:∀i,i<n→(∀j,j<i→early j=none)→step (S i)=some (match early i with | some e=> .inr e | none=> .inl (S (i+1)))) (h2:(∀j,j<n→early j=none)→step (S n)=some (.inr out)):
   AS step (S 0)=some (((List.range n).findSome? early).getD out):=by
 have key:∀m i,i+m=n→(∀j,j<i→early j=none)→AS step (S i)=some ((((List.range n).drop i).findSome? early).getD out):=by
   intro m
   induction m with
   | zero=>
     intro i hi hj;obtain rfl:i=n:=by omega
     rw[Bx,h2 hj,List.drop_of_length_le (by simp)];rfl
   | succ m ih=>
     intro i hi hj;rw[Bx,h1 i (by omega) hj];have hd:(List.range n).drop i=i::(List.range n).drop (i+1):=by
       rw[List.drop_eq_getElem_cons (by simp;omega)];simp
     rw[hd,List.findSome?_cons];cases he:early i with
     | some e=>simp[Fq]
     | none=>
       simp only[Option.bind_some,Fq];exact ih (i+1) (by omega) (fun j hj2=>by
         by_cases e:j=i
         · rw[e];exact he
         · exact hj j (by omega))
 have:=key n 0 (by omega) (fun j hj=>by omega)
 simpa using this
section
variable {P:Program} {st:St} {x:Code} {k:Kt}
theorem Bl {σ ε:Type} {step:σ→Option (σ⊕ε)} {s0:σ} {e:ε} (hr:AS step s0=some e) (S:σ→St) (hw:Wk st (S s0))
   (hs:∀s n,(step s).bind (Fq (EH step n))=some e→(∀s' st',EH step n s'=some e→Wk st' (S s')→L P x k n st')→X P x (.lp x n k) (S s)):X P (.loop x) k st:=by
 obtain ⟨n,hn⟩:=IC.1 hr;have key:∀n s,EH step n s=some e→L P x k n (S s):=by
   intro n
   induction n with
   | zero=>intro s h;simp[EH] at h
   | succ n ih=>intro s h;exact ⟨S s,Wk.refl _,hs s n h fun s' st' h' hw'=>Aeo hw' (ih s' h')⟩
 exact VM _ (Aeo hw (key n s0 hn))
end
def A0 {α:Type} (l:List α) (i:Int):Option α:=if 0≤i then l[i.toNat]? else none
theorem TP {α:Type} {l:List α} {i:Int} {x:α} (h:A0 l i=some x):(0≤i∧i<(l.length:Int))∧l[i.toNat]?=some x:=by
 unfold A0 at h;split at h
 · have:=(List.getElem?_eq_some_iff.1 h).1;exact ⟨by omega,h⟩
 · cases h
theorem AA {α:Type} {l:List α} {i:Int} {x:α} (h:A0 l i=some x):0≤i∧i<(l.length:Int):=(TP h).1
theorem AB {α:Type} {l:List α} {i:Int} {x:α} (f:α→List Pd) (h:A0 l i=some x):(l.map f).getD i.toNat []=f x:=by
 simp[List.getD,(TP h).2]
theorem KI {α:Type} (l:List α) (i:Nat):A0 l (i:Int)=l[i]?:=by
 unfold A0;rw[if_pos (by omega)];rfl
structure Ao1 where
 cq:Int
 ca:Int
 cd:Int
 cp:Int
theorem Oa:Ag []=[]:=rfl
theorem N6:AV []=[]:=rfl
theorem N4:Bf []=[]:=rfl
theorem Ob:AM []=[]:=rfl
theorem Oc:BO []=[]:=rfl
theorem N8:CN []=[]:=rfl
theorem N9:Bi []=[]:=rfl
theorem N7:Bh []=[]:=rfl
theorem IQ (l:List Bool):(Bf l).length=l.length:=by simp[Bf]
theorem IX (l:List (List Int)):(AM l).length=l.length:=by simp[AM]
theorem IU (l:List JN):(Bi l).length=l.length:=by simp[Bi]
theorem C5 (l:List BY):(Bh l).length=l.length:=by simp[Bh]
theorem ZK (l:List Int) (x:Int):Ag l++[[.int .i64 x]]=Ag (l++[x]):=by simp[Ag]
theorem ZL (l:List Dc) (a b:Int) (c:List (List UInt8)) (d:List Int):BO l++[[.int .i64 a,.int .i64 b,.sl (AV c),.sl (Ag d)]]=BO (l++[⟨a,b,c,d⟩]):=by simp[BO]
theorem R1 (l:List Bool) (x:Bool):Bf (l++[x])=Bf l++[[.bool x]]:=by simp[Bf]
theorem R7 (l:List (List Int)) (x:List Int):AM (l++[x])=AM l++[[.sl (Ag x)]]:=by simp[AM]
theorem R5 (l:List JN) (x:JN):Bi (l++[x])=Bi l++[[.str x.name,.int .i64 x.x,.int .i64 x.y]]:=by simp[Bi]
theorem R4 (l:List BY) (x:BY):Bh (l++[x])=Bh l++[[.str x.name,.bool x.A1,.int .i64 x.Ft,.int .i64 x.out,.int .i64 x.AH,.int .i64 x.base]]:=by simp[Bh]
theorem Adv (l:List Int) (i:Nat) (x:Int):(Ag l).set i [.int .i64 x]=Ag (l.set i x):=by simp[Ag,List.map_set]
theorem Adu (l:List BY) (i:Nat) (a:List UInt8) (b:Bool) (c d e f:Int):(Bh l).set i [.str a,.bool b,.int .i64 c,.int .i64 d,.int .i64 e,.int .i64 f]=Bh (l.set i ⟨a,b,c,d,e,f⟩):=by simp[Bh,List.map_set]
theorem JA (l:List Int):(Ag l).take l.length=Ag l:=by simp[Ag,←List.map_take]
theorem MK (l:List (List UInt8)):(AV l).take l.length=AV l:=by simp[AV,←List.map_take]
theorem MJ (l:List Bool):(Bf l).take l.length=Bf l:=by simp[Bf,←List.map_take]
theorem MO (l:List (List Int)):(AM l).take l.length=AM l:=by simp[AM,←List.map_take]
theorem MP (l:List Dc):(BO l).take l.length=BO l:=by simp[BO,←List.map_take]
theorem MM (l:List Ln):(CN l).take l.length=CN l:=by simp[CN,←List.map_take]
theorem MN (l:List JN):(Bi l).take l.length=Bi l:=by simp[Bi,←List.map_take]
theorem ML (l:List BY):(Bh l).take l.length=Bh l:=by simp[Bh,←List.map_take]
theorem An4 (l:List Int) (a b:Nat):((Ag l).take b).drop a=Ag ((l.take b).drop a):=by simp[Ag]
theorem Ajr (n:Nat):List.replicate n [Pd.int .i64 0]=Ag (List.replicate n 0):=by simp[Ag]
theorem Adr (n:Nat):List.replicate n [Pd.bool false]=Bf (List.replicate n false):=by simp[Bf]
theorem Gb (l:List Int):I1 1 (Ag l):=by simp[I1,Ag]
theorem Ajt (l:List Dc):I1 4 (BO l):=by simp[I1,BO]
theorem Ue (l:List Bool) (i:Nat) (x:Bool):Bf (l.set i x)=(Bf l).set i [.bool x]:=by simp[Bf,List.map_set]
theorem Uj (l:List (List Int)) (i:Nat) (x:List Int):AM (l.set i x)=(AM l).set i [.sl (Ag x)]:=by simp[AM,List.map_set]
theorem Uk (l:List Dc) (i:Nat) (x:Dc):BO (l.set i x)=(BO l).set i [.int .i64 x.word,.int .i64 x.line,.sl (AV x.names),.sl (Ag x.AJ)]:=by simp[BO,List.map_set]
theorem Ui (l:List JN) (i:Nat) (x:JN):Bi (l.set i x)=(Bi l).set i [.str x.name,.int .i64 x.x,.int .i64 x.y]:=by simp[Bi,List.map_set]
theorem Pf (l:List BY) (i:Nat) (x:BY):Bh (l.set i x)=(Bh l).set i [.str x.name,.bool x.A1,.int .i64 x.Ft,.int .i64 x.out,.int .i64 x.AH,.int .i64 x.base]:=by simp[Bh,List.map_set]
theorem XA (x:Int):Ag [x]=[[.int .i64 x]]:=rfl
theorem Xy (x:List UInt8):AV [x]=[[.str x]]:=rfl
theorem Xx (x:Bool):Bf [x]=[[.bool x]]:=rfl
theorem R6 (x:Int) (l:List Int):Ag (x::l)=[.int .i64 x]::Ag l:=rfl
theorem R3 (x:List UInt8) (l:List (List UInt8)):AV (x::l)=[.str x]::AV l:=rfl
theorem R2 (x:Bool) (l:List Bool):Bf (x::l)=[.bool x]::Bf l:=rfl
theorem R8 (x:List Int) (l:List (List Int)):AM (x::l)=[.sl (Ag x)]::AM l:=rfl
attribute [go_sem] Ab Aq IQ IX A8 A5 IU C5
attribute [go_sem] List.length_set ZK ZL
attribute [go_sem] Adv Adu
attribute [go_sem] JA MK MJ MO MP MM MN ML Ajr Adr Int.toNat_natCast
attribute [go_sem] KK.fit B7 Cj Y4 Rc UY Pd.flat Re Agi Agm Y0 Y1 UZ l9 n7
attribute [go_sem] An4
theorem bE {α β:Type} {a:Option α} {f:α→Option β} {r:β} (h:a.bind f=some r):∃x,a=some x∧f x=some r:=by
 cases a with
 | none=>cases h
 | some x=>exact ⟨x,rfl,h⟩
theorem bK {α β γ:Type} {a:Option α} {f:α→Option β} {k:β→Option γ} {r:γ} (h:(a.bind f).bind k=some r):∃x,a=some x∧(f x).bind k=some r:=by
 cases a with
 | none=>cases h
 | some x=>exact ⟨x,rfl,h⟩
theorem gE {α:Type} {c:Bool} {x:Option α} {r:α} (h:cond c x none=some r):c=true∧x=some r:=by
 cases c with
 | false=>cases h
 | true=>exact ⟨rfl,h⟩
theorem gK {α γ:Type} {c:Bool} {x:Option α} {k:α→Option γ} {r:γ} (h:(cond c x none).bind k=some r):c=true∧x.bind k=some r:=by
 cases c with
 | false=>cases h
 | true=>exact ⟨rfl,h⟩
theorem ZE:(type_of% @Oa)∧(type_of% @N6)∧(type_of% @N4)∧(type_of% @Ob)∧(type_of% @Oc)∧(type_of% @N8)∧(type_of% @N9)∧(type_of% @N7)∧(type_of% @UY)∧(type_of% @UZ)∧(type_of% @R6)∧(type_of% @R3)∧(type_of% @R2)∧(type_of% @R8)∧(type_of% @XA)∧(type_of% @Xy)∧(type_of% @Xx)∧(type_of% @Cq)∧(type_of% @CP)∧(type_of% @R1)∧(type_of% @R7)∧(type_of% @DW)∧(type_of% @IS)∧(type_of% @R5)∧(type_of% @R4)∧(type_of% @Bt)∧(type_of% @N5)∧(type_of% @Ue)∧(type_of% @Uj)∧(type_of% @Uk)∧(type_of% @Ui)∧(type_of% @Pf)∧(type_of% @Ab)∧(type_of% @Aq)∧(type_of% @IQ)∧(type_of% @IX)∧(type_of% @A8)∧(type_of% @A5)∧(type_of% @IU)∧(type_of% @C5):=⟨@Oa,@N6,@N4,@Ob,@Oc,@N8,@N9,@N7,@UY,@UZ,@R6,@R3,@R2,@R8,@XA,@Xy,@Xx,@Cq,@CP,@R1,@R7,@DW,@IS,@R5,@R4,@Bt,@N5,@Ue,@Uj,@Uk,@Ui,@Pf,@Ab,@Aq,@IQ,@IX,@A8,@A5,@IU,@C5⟩
theorem ZB:(type_of% @JA)∧(type_of% @MK)∧(type_of% @MJ)∧(type_of% @MO)∧(type_of% @MP)∧(type_of% @MM)∧(type_of% @MN)∧(type_of% @ML)∧(type_of% @Ab)∧(type_of% @Aq)∧(type_of% @IQ)∧(type_of% @IX)∧(type_of% @A8)∧(type_of% @A5)∧(type_of% @IU)∧(type_of% @C5)∧(type_of% @Oa)∧(type_of% @N6)∧(type_of% @N4)∧(type_of% @Ob)∧(type_of% @Oc)∧(type_of% @N8)∧(type_of% @N9)∧(type_of% @N7):=⟨@JA,@MK,@MJ,@MO,@MP,@MM,@MN,@ML,@Ab,@Aq,@IQ,@IX,@A8,@A5,@IU,@C5,@Oa,@N6,@N4,@Ob,@Oc,@N8,@N9,@N7⟩
theorem Bw {σ ε:Type} {step:σ→Option (σ⊕ε)} (n:Nat) (S:Nat→σ) (out:ε) (h1:∀i,i<n→step (S i)=some (.inl (S (i+1)))) (h2:step (S n)=some (.inr out)):AS step (S 0)=some out:=by
 have:=OS n S out (fun _=>none) (fun i hi _=>h1 i hi) (fun _=>h2);rw[this];have:(List.range n).findSome? (fun _=>(none:Option ε))=none:=by rw[List.findSome?_eq_none_iff];simp
 rw[this];rfl
theorem G3 {σ ε:Type} {step:σ→Option (σ⊕ε)} (n:Nat) (S:Nat→σ) (out bad:ε) (O8:Nat→Bool)
   (h1:∀i,i<n→(∀j,j<i→O8 j=true)→step (S i)=some (if O8 i=true then .inl (S (i+1)) else .inr bad)) (h2:(∀j,j<n→O8 j=true)→step (S n)=some (.inr out)):
   AS step (S 0)=some (if (∀j,j<n→O8 j=true) then out else bad):=by
 have h:=OS n S out (fun i=>if O8 i=true then none else some bad)
   (fun i hi hj=>by
     rw[h1 i hi (fun j hj2=>by have:=hj j hj2;by_cases g:O8 j=true;exact g;simp[g] at this)];by_cases g:O8 i=true<;>simp[g])
   (fun hj=>h2 (fun j hj2=>by have:=hj j hj2;by_cases g:O8 j=true;exact g;simp[g] at this))
 rw[h];by_cases g:∀j,j<n→O8 j=true
 · rw[if_pos g];have:(List.range n).findSome? (fun i=>if O8 i=true then none else some bad)=none:=by
     rw[List.findSome?_eq_none_iff];intro x hx;simp[g x (by simpa using hx)]
   rw[this];rfl
 · rw[if_neg g];cases hf:(List.range n).findSome? (fun i=>if O8 i=true then none else some bad) with
   | none=>
     exfalso;rw[List.findSome?_eq_none_iff] at hf;refine g fun j hj=>?_;have:=hf j (by simpa using hj);by_cases g2:O8 j=true
     · exact g2
     · simp[g2] at this
   | some e=>
     obtain ⟨i,hi,he⟩:=List.exists_of_findSome?_eq_some hf;by_cases g2:O8 i=true
     · simp[g2] at he
     · simp[g2] at he;simp[he]
theorem AU {α:Type} (l:List α) (i:Nat) (x:α) (h:i<l.length):A0 l (i:Int)=some (l.getD i x):=by rw[KI];simp[List.getD,h]
theorem D2 {i n:Nat} (h:i<n):decide ((i:Int)<((n:Nat):Int))=true:=decide_eq_true (by omega)
theorem Fj {n:Nat}:decide ((n:Int)<((n:Nat):Int))=false:=decide_eq_false (by omega)
noncomputable def LH (a0:List (List Int)) (v3:Int) (BM:List Int):Int→Option ((Int)⊕(Int⊕Int))
 | L1=>cond (decide (L1<((BM.length:Nat):Int))) (Option.bind (A0 BM L1) fun VZ=>cond (decide (VZ<0)) (some (Sum.inr (.inr ((20:Int))))) (cond (decide (((a0.length:Nat):Int)≤VZ)) (some (Sum.inr (.inr ((20:Int))))) (cond (decide (VZ=v3)) (some (Sum.inr (.inr ((20:Int))))) (cond (decide (0<L1)) (Option.bind (A0 BM (IntKind.i64.wrap (L1 - 1))) fun x31=>cond (decide (VZ≤x31)) (some (Sum.inr (.inr ((20:Int))))) (some (Sum.inl (IntKind.i64.wrap (L1+1))))) (some (Sum.inl (IntKind.i64.wrap (L1+1)))))))) (some (Sum.inr (.inl L1)))
theorem JH (a0:List (List Int)) (v3:Int) (BM:List Int) (L1:Int):LH a0 v3 BM L1=cond (decide (L1<((BM.length:Nat):Int))) (Option.bind (A0 BM L1) fun VZ=>cond (decide (VZ<0)) (some (Sum.inr (.inr ((20:Int))))) (cond (decide (((a0.length:Nat):Int)≤VZ)) (some (Sum.inr (.inr ((20:Int))))) (cond (decide (VZ=v3)) (some (Sum.inr (.inr ((20:Int))))) (cond (decide (0<L1)) (Option.bind (A0 BM (IntKind.i64.wrap (L1 - 1))) fun x31=>cond (decide (VZ≤x31)) (some (Sum.inr (.inr ((20:Int))))) (some (Sum.inl (IntKind.i64.wrap (L1+1))))) (some (Sum.inl (IntKind.i64.wrap (L1+1)))))))) (some (Sum.inr (.inl L1))):=rfl
noncomputable def Pn (a0:List (List Int)):Int→Option ((Int)⊕(Int⊕Int))
 | v3=>cond (decide (v3<((a0.length:Nat):Int))) (Option.bind (A0 a0 v3) fun BM=>Option.bind (AS (LH a0 v3 BM) 0) (fun | .inl YA=>some (Sum.inl (IntKind.i64.wrap (v3+1))) | .inr (r37)=>some (Sum.inr (.inr (r37))))) (some (Sum.inr (.inl v3)))
theorem JG (a0:List (List Int)) (v3:Int):Pn a0 v3=cond (decide (v3<((a0.length:Nat):Int))) (Option.bind (A0 a0 v3) fun BM=>Option.bind (AS (LH a0 v3 BM) 0) (fun | .inl YA=>some (Sum.inl (IntKind.i64.wrap (v3+1))) | .inr (r37)=>some (Sum.inr (.inr (r37))))) (some (Sum.inr (.inl v3))):=rfl
noncomputable def Dt (a0:List (List Int)) (a1:List Bool):Option (Int):=
 cond (decide (24<((a0.length:Nat):Int))) (some 20) (Option.bind (AS (Pn a0) 0) (fun | .inl Wg=>cond (decide (((a1.length:Nat):Int)=((a0.length:Nat):Int))) (some 0) (some 19) | .inr (r40)=>some r40))
theorem Sj (a0:List (List Int)) (a1:List Bool) (r:Int) (hr:Dt a0 a1=some r):
   Aj Tryz.prog 116 [.p (.sl (AM a0)),.p (.sl (Bf a1))] [] fun h d=>h=[]∧d= .p (.int .i64 r):=by
 refine Ak Tryz.func116 rfl Ad8 (by simp[Tryz.f116]) ?_;unfold Dt at hr;cases c1:decide (24<((a0.length:Nat):Int))
 · simp only[c1,cond_false] at hr;obtain ⟨e7,g8,hr⟩:=bE hr;try simp only[go_sem,c1]
   refine Bl g8 (fun q:Int=>⟨[(0,.p (.sl (AM a0))),(1,.p (.sl (Bf a1))),(12,.p (.sl (AM a0))),(13,.p (.int .i64 ((a0.length:Nat):Int))),(14,.p (.int .i64 q))],[],59⟩) ((Wk.forget (by simp[Le,AG,Av,get,Aa,Ac,Ad,D.ids,Ai,AO.ids,Ae,base,ZE]))) ?_;rintro v3 m6 EJ WW;rw[JG] at EJ;cases c9:decide (v3<((a0.length:Nat):Int))
   · simp only[c9,cond_false] at EJ;simp only[Option.bind_some,Ar] at EJ;obtain rfl:=Option.some.inj EJ;try dsimp only at hr
     cases Iq:decide (((a1.length:Nat):Int)=((a0.length:Nat):Int))
     · simp only[Iq,cond_false] at hr;obtain rfl:=Option.some.inj hr;try simp only[go_sem,c9,Iq]
       all_goals (try refine Ah ?_)
       all_goals (try simp only[go_sem,c9,Iq])
       all_goals (try (first | rfl | exact ⟨rfl,rfl⟩ | (simp;done)))
     simp only[Iq,cond_true] at hr;obtain rfl:=Option.some.inj hr;try simp only[go_sem,c9,Iq]
     all_goals (try refine Ah ?_)
     all_goals (try simp only[go_sem,c9,Iq])
     all_goals (try (first | rfl | exact ⟨rfl,rfl⟩ | (simp;done)))
   simp only[c9,cond_true] at EJ;obtain ⟨BM,g12,EJ⟩:=bK EJ;have f13:=AA g12;have f14:(AM a0).getD (Int.toNat v3) []=[(.sl (Ag BM))]:=AB _ g12;obtain ⟨e20,g21,EJ⟩:=bK EJ;try simp only[go_sem,c9,f13,f14]
   refine Bl g21 (fun q:Int=>⟨[(0,.p (.sl (AM a0))),(1,.p (.sl (Bf a1))),(5,.p (.int .i64 v3)),(6,.p (.sl (Ag BM))),(12,.p (.sl (AM a0))),(13,.p (.int .i64 ((a0.length:Nat):Int))),(14,.p (.int .i64 v3)),(19,.p (.sl (Ag BM))),(20,.p (.int .i64 ((BM.length:Nat):Int))),(21,.p (.int .i64 q))],[],59⟩) ((Wk.forget (by simp[Le,AG,Av,get,Aa,Ac,Ad,D.ids,Ai,AO.ids,Ae,base,ZE]))) ?_;rintro L1 m19 Ey Asp;rw[JH] at Ey;cases QA:decide (L1<((BM.length:Nat):Int))
   · simp only[QA,cond_false] at Ey;simp only[Option.bind_some,Ar] at Ey;obtain rfl:=Option.some.inj Ey;try dsimp only at EJ
     simp only[Option.bind_some,At] at EJ;try simp only[go_sem,QA]
     exact WW (IntKind.i64.wrap (v3+1)) _ EJ ((Wk.forget (by simp[Le,AG,Av,get,Aa,Ac,Ad,D.ids,Ai,AO.ids,Ae,base,ZE])))
   simp only[QA,cond_true] at Ey;obtain ⟨VZ,g24,Ey⟩:=bK Ey;have f25:=AA g24;have f26:(Ag BM).getD (Int.toNat L1) []=[(.int .i64 VZ)]:=AB _ g24;cases s6:decide (VZ<0)
   · simp only[s6,cond_false] at Ey;cases c28:decide (((a0.length:Nat):Int)≤VZ)
     · simp only[c28,cond_false] at Ey;cases VY:decide (VZ=v3)
       · simp only[VY,cond_false] at Ey;cases Sk:decide (0<L1)
         · simp only[Sk,cond_false] at Ey;simp only[Option.bind_some,At] at Ey;try simp only[go_sem,QA,f25,f26,s6,c28,VY,Sk]
           exact Asp (IntKind.i64.wrap (L1+1)) _ Ey ((Wk.forget (by simp[Le,AG,Av,get,Aa,Ac,Ad,D.ids,Ai,AO.ids,Ae,base,ZE])))
         simp only[Sk,cond_true] at Ey;obtain ⟨x31,g32,Ey⟩:=bK Ey;have f33:=AA g32;have f34:(Ag BM).getD (Int.toNat (IntKind.i64.wrap (L1 - 1))) []=[(.int .i64 x31)]:=AB _ g32;cases c35:decide (VZ≤x31)
         · simp only[c35,cond_false] at Ey;simp only[Option.bind_some,At] at Ey;try simp only[go_sem,QA,f25,f26,s6,c28,VY,Sk,f33,f34,c35]
           exact Asp (IntKind.i64.wrap (L1+1)) _ Ey ((Wk.forget (by simp[Le,AG,Av,get,Aa,Ac,Ad,D.ids,Ai,AO.ids,Ae,base,ZE])))
         simp only[c35,cond_true] at Ey;simp only[Option.bind_some,Ar] at Ey;obtain rfl:=Option.some.inj Ey;try dsimp only at EJ
         simp only[Option.bind_some,Ar] at EJ;obtain rfl:=Option.some.inj EJ;try dsimp only at hr
         obtain rfl:=Option.some.inj hr;try simp only[go_sem,QA,f25,f26,s6,c28,VY,Sk,f33,f34,c35]
         all_goals (try refine Ah ?_)
         all_goals (try simp only[go_sem,QA,f25,f26,s6,c28,VY,Sk,f33,f34,c35])
         all_goals (try (first | rfl | exact ⟨rfl,rfl⟩ | (simp;done)))
       simp only[VY,cond_true] at Ey;simp only[Option.bind_some,Ar] at Ey;obtain rfl:=Option.some.inj Ey;try dsimp only at EJ
       simp only[Option.bind_some,Ar] at EJ;obtain rfl:=Option.some.inj EJ;try dsimp only at hr
       obtain rfl:=Option.some.inj hr;try simp only[go_sem,QA,f25,f26,s6,c28,VY]
       all_goals (try refine Ah ?_)
       all_goals (try simp only[go_sem,QA,f25,f26,s6,c28,VY])
       all_goals (try (first | rfl | exact ⟨rfl,rfl⟩ | (simp;done)))
     simp only[c28,cond_true] at Ey;simp only[Option.bind_some,Ar] at Ey;obtain rfl:=Option.some.inj Ey;try dsimp only at EJ
     simp only[Option.bind_some,Ar] at EJ;obtain rfl:=Option.some.inj EJ;try dsimp only at hr
     obtain rfl:=Option.some.inj hr;try simp only[go_sem,QA,f25,f26,s6,c28]
     all_goals (try refine Ah ?_)
     all_goals (try simp only[go_sem,QA,f25,f26,s6,c28])
     all_goals (try (first | rfl | exact ⟨rfl,rfl⟩ | (simp;done)))
   simp only[s6,cond_true] at Ey;simp only[Option.bind_some,Ar] at Ey;obtain rfl:=Option.some.inj Ey;try dsimp only at EJ
   simp only[Option.bind_some,Ar] at EJ;obtain rfl:=Option.some.inj EJ;try dsimp only at hr
   obtain rfl:=Option.some.inj hr;try simp only[go_sem,QA,f25,f26,s6]
   all_goals (try refine Ah ?_)
   all_goals (try simp only[go_sem,QA,f25,f26,s6])
   all_goals (try (first | rfl | exact ⟨rfl,rfl⟩ | (simp;done)))
 simp only[c1,cond_true] at hr;obtain rfl:=Option.some.inj hr;try simp only[go_sem,c1]
 all_goals (try refine Ah ?_)
 all_goals (try simp only[go_sem,c1])
 all_goals (try (first | rfl | exact ⟨rfl,rfl⟩ | (simp;done)))
noncomputable def OE (a0:List Int) (a1:Int):Int→Option ((Int)⊕(Int⊕Int))
 | v2=>cond (decide (v2<((a0.length:Nat):Int))) (Option.bind (A0 a0 v2) fun x9=>cond (decide (a1=x9)) (some (Sum.inr (.inr ((v2:Int))))) (some (Sum.inl (IntKind.i64.wrap (v2+1))))) (some (Sum.inr (.inl v2)))
theorem I7 (a0:List Int) (a1:Int) (v2:Int):OE a0 a1 v2=cond (decide (v2<((a0.length:Nat):Int))) (Option.bind (A0 a0 v2) fun x9=>cond (decide (a1=x9)) (some (Sum.inr (.inr ((v2:Int))))) (some (Sum.inl (IntKind.i64.wrap (v2+1))))) (some (Sum.inr (.inl v2))):=rfl
noncomputable def Nn (a0:List Int) (a1:Int):Option (Int):=
 Option.bind (AS (OE a0 a1) 0) (fun | .inl L2=>some (-1) | .inr (r15)=>some r15)
theorem YM (a0:List Int) (a1:Int) (r:Int) (hr:Nn a0 a1=some r):
   Aj Tryz.prog 171 [.p (.sl (Ag a0)),.p (.int .i64 a1)] [] fun h d=>h=[]∧d= .p (.int .i64 r):=by
 refine Ak Tryz.func171 rfl Ua (by simp[Tryz.f171]) ?_;unfold Nn at hr;obtain ⟨e6,g7,hr⟩:=bE hr;try simp only[go_sem]
 refine Bl g7 (fun q:Int=>⟨[(0,.p (.sl (Ag a0))),(1,.p (.int .i64 a1)),(7,.p (.int .i64 ((a0.length:Nat):Int))),(8,.p (.int .i64 q))],[],19⟩) ((Wk.forget (by simp[Le,AG,Av,get,Aa,Ac,Ad,D.ids,Ai,AO.ids,Ae,base,ZE]))) ?_;rintro v2 m5 L9 TM;rw[I7] at L9;cases c8:decide (v2<((a0.length:Nat):Int))
 · simp only[c8,cond_false] at L9;simp only[Option.bind_some,Ar] at L9;obtain rfl:=Option.some.inj L9;try dsimp only at hr
   obtain rfl:=Option.some.inj hr;try simp only[go_sem,c8]
   all_goals (try refine Ah ?_)
   all_goals (try simp only[go_sem,c8])
   all_goals (try (first | rfl | exact ⟨rfl,rfl⟩ | (simp;done)))
 simp only[c8,cond_true] at L9;obtain ⟨x9,g10,L9⟩:=bK L9;have f11:=AA g10;have f12:(Ag a0).getD (Int.toNat v2) []=[(.int .i64 x9)]:=AB _ g10;cases MU:decide (a1=x9)
 · simp only[MU,cond_false] at L9;simp only[Option.bind_some,At] at L9;try simp only[go_sem,c8,f11,f12,MU]
   exact TM (IntKind.i64.wrap (v2+1)) _ L9 ((Wk.forget (by simp[Le,AG,Av,get,Aa,Ac,Ad,D.ids,Ai,AO.ids,Ae,base,ZE])))
 simp only[MU,cond_true] at L9;simp only[Option.bind_some,Ar] at L9;obtain rfl:=Option.some.inj L9;try dsimp only at hr
 obtain rfl:=Option.some.inj hr;try simp only[go_sem,c8,f11,f12,MU]
 all_goals (try refine Ah ?_)
 all_goals (try simp only[go_sem,c8,f11,f12,MU])
 all_goals (try (first | rfl | exact ⟨rfl,rfl⟩ | (simp;done)))
noncomputable def UP (a0:List Int):Int×Int→Option ((Int×Int)⊕((Int×Int)))
 | (v8,v9)=>cond (decide (v9<((a0.length:Nat):Int))) (Option.bind (A0 a0 v9) fun Nd=>some (Sum.inl ((if Nd<v8 then Nd else v8),(IntKind.i64.wrap (v9+1))))) (some (Sum.inr (v8,v9)))
theorem Mn (a0:List Int) (v8:Int) (v9:Int):UP a0 (v8,v9)=cond (decide (v9<((a0.length:Nat):Int))) (Option.bind (A0 a0 v9) fun Nd=>some (Sum.inl ((if Nd<v8 then Nd else v8),(IntKind.i64.wrap (v9+1))))) (some (Sum.inr (v8,v9))):=rfl
noncomputable def UO (a0:List Int):Option (Int):=
 cond (decide (((a0.length:Nat):Int)<1)) none (Option.bind (A0 a0 0) fun x2=>Option.bind (AS (UP a0) (x2,1)) (fun (v20,v21)=>some v20))
theorem Aft (a0:List Int) (r:Int) (hr:UO a0=some r):
   Aj Tryz.prog 179 [.p (.sl (Ag a0))] [] fun h d=>h=[]∧d= .p (.int .i64 r):=by
 refine Ak Tryz.func179 rfl Acd (by simp[Tryz.f179]) ?_;unfold UO at hr;cases c1:decide (((a0.length:Nat):Int)<1)
 · simp only[c1,cond_false] at hr;obtain ⟨x2,g3,hr⟩:=bE hr;have f4:=AA g3;have f5:(Ag a0).getD 0 []=[(.int .i64 x2)]:=AB _ g3;obtain ⟨e13,g14,hr⟩:=bE hr;try simp only[go_sem,c1,f4,f5]
   refine Bl g14 (fun q:Int×Int=>⟨[(0,.p (.sl (Ag a0))),(3,.p (.int .i64 q.1)),(4,.p (.int .i64 q.2))],[],25⟩) ((Wk.forget (by simp[Le,AG,Av,get,Aa,Ac,Ad,D.ids,Ai,AO.ids,Ae,base,ZE]))) ?_;rintro ⟨v8,v9⟩ m12 Vl Awc;rw[Mn] at Vl;cases H4:decide (v9<((a0.length:Nat):Int))
   · simp only[H4,cond_false] at Vl;simp only[Option.bind_some,Ar] at Vl;obtain rfl:=Option.some.inj Vl;try dsimp only at hr
     obtain rfl:=Option.some.inj hr;try simp only[go_sem,H4]
     all_goals (try refine Ah ?_)
     all_goals (try simp only[go_sem,H4])
     all_goals (try (first | rfl | exact ⟨rfl,rfl⟩ | (simp;done)))
   simp only[H4,cond_true] at Vl;obtain ⟨Nd,g17,Vl⟩:=bK Vl;have f18:=AA g17;have f19:(Ag a0).getD (Int.toNat v9) []=[(.int .i64 Nd)]:=AB _ g17;simp only[Option.bind_some,At] at Vl;try simp only[go_sem,H4,f18,f19]
   exact Awc ((if Nd<v8 then Nd else v8),(IntKind.i64.wrap (v9+1))) _ Vl ((Wk.forget (by simp[Le,AG,Av,get,Aa,Ac,Ad,D.ids,Ai,AO.ids,Ae,base,ZE])))
 simp only[c1,cond_true] at hr;simp at hr
def okE (n v:Nat) (r:List Int) (i:Nat):Bool:=!decide (r.getD i 0<0)&&!decide ((n:Int)≤r.getD i 0)&&!decide (r.getD i 0=(v:Int))&&(decide (i=0)||!decide (r.getD i 0≤r.getD (i - 1) 0))
def okR (n v:Nat) (r:List Int):Prop:=∀i,i<r.length→okE n v r i=true
instance (n v:Nat) (r:List Int):Decidable (okR n v r):=by unfold okR;infer_instance
theorem cL1 (g:List (List Int)) (v:Nat) (r:List Int) (hr:r.length≤2000000):
   AS (LH g (v:Nat) r) 0=some (if okR g.length v r then .inl ((r.length:Nat):Int) else .inr 20):=by
 refine G3 r.length (fun i=>((i:Nat):Int)) _ _ (okE g.length v r) ?_ ?_
 · intro i hi _;rw[JH,D2 hi,cond_true,AU r i 0 hi,Option.bind_some];unfold okE;cases c1:decide (r.getD i 0<0)
   · cases c2:decide ((g.length:Int)≤r.getD i 0)
     · cases c3:decide (r.getD i 0=(v:Int))
       · rcases i with _ | i
         · have c4:decide (0<(((0:Nat):Int)))=false:=by decide
           simp only[cond_false,c4];rw[AZ (by omega)];simp
         · have c4:decide (0<(((i+1:Nat):Int)))=true:=decide_eq_true (by omega);have e1:IntKind.i64.wrap (((i+1:Nat):Int) - 1)=((i:Nat):Int):=by
             simp[IntKind.wrap,IntKind.bits,IntKind.signed];omega
           simp only[cond_false,cond_true,c4,e1];rw[AU r i 0 (by omega),Option.bind_some,AZ (by omega)];have e2:i+1 - 1=i:=rfl;rw[e2];cases c5:decide (r.getD (i+1) 0≤r.getD i 0)<;>simp
       · simp
     · simp
   · simp
 · intro _;rw[JH,Fj,cond_false]
theorem cL2 (g:List (List Int)) (hn:g.length≤2000000) (hr:∀v,v<g.length→(g.getD v []).length≤2000000):
   AS (Pn g) 0=some (if ∀v,v<g.length→decide (okR g.length v (g.getD v []))=true then .inl ((g.length:Nat):Int) else .inr 20):=by
 refine G3 g.length (fun i=>((i:Nat):Int)) _ _ (fun v=>decide (okR g.length v (g.getD v []))) ?_ ?_
 · intro v hv _;rw[JG,D2 hv,cond_true,AU g v [] hv,Option.bind_some,cL1 g v _ (hr v hv),Option.bind_some];by_cases h:okR g.length v (g.getD v [])
   · rw[if_pos h,if_pos (decide_eq_true h)];simp only;rw[AZ (by omega)]
   · rw[if_neg h,if_neg (fun h9=>h (of_decide_eq_true h9))]
 · intro _;rw[JG,Fj,cond_false]
theorem Uu (g:List (List Int)) (sh:List Bool) (hr:∀v,v<g.length→(g.getD v []).length≤2000000):
   Dt g sh=some (if 24<g.length then 20 else if ∀v,v<g.length→decide (okR g.length v (g.getD v []))=true then (if sh.length=g.length then 0 else 19) else 20):=by
 unfold Dt;by_cases h1:24<g.length
 · rw[if_pos h1,decide_eq_true (by omega),cond_true]
 · rw[if_neg h1,decide_eq_false (by omega),cond_false,cL2 g (by omega) hr,Option.bind_some];by_cases h2:∀v,v<g.length→decide (okR g.length v (g.getD v []))=true
   · rw[if_pos h2,if_pos h2];simp only;by_cases h3:sh.length=g.length
     · rw[if_pos h3,decide_eq_true (by omega),cond_true]
     · rw[if_neg h3,decide_eq_false (by omega),cond_false]
   · rw[if_neg h2,if_neg h2]
theorem Alv {n v:Nat} {r:List Int} (h:okR n v r) (k:Nat) (hk:k<r.length):∃w:Nat,r.getD k 0=(w:Int)∧w<n:=by
 have:=h k hk;unfold okE at this;simp only[Bool.and_eq_true,Bool.not_eq_true',decide_eq_false_iff_not] at this;obtain ⟨⟨⟨h1,h2⟩,_⟩,_⟩:=this;exact ⟨(r.getD k 0).toNat,by omega,by omega⟩
theorem Aea {g:List (List Int)} {sh:List Bool} (hr:∀v,v<g.length→(g.getD v []).length≤2000000) (h:Dt g sh=some 0):
   g.length≤24∧sh.length=g.length∧∀v k,k<(g.getD v []).length→∃w:Nat,(g.getD v []).getD k 0=(w:Int)∧w<g.length:=by
 rw[Uu g sh hr] at h;have h:=Option.some.inj h;split at h
 · cases h
 rename_i h1;split at h
 case isFalse=>cases h
 rename_i h2;split at h
 case isFalse=>cases h
 rename_i h3;refine ⟨by omega,h3,fun v k hk=>?_⟩;by_cases hv:v<g.length
 · exact Alv (of_decide_eq_true (h2 v hv)) k hk
 · rw[List.getD,List.getElem?_eq_none (by omega)] at hk;exact absurd hk (Nat.not_lt_zero _)
def Ed (g:List (List Int)) (sh:List Bool) (v w:Nat):Prop:=(w:Int)∈g.getD v []∧sh.getD w false=false
inductive Mf (g:List (List Int)) (sh:List Bool):Nat→Nat→Prop
 | refl (v:Nat):Mf g sh v v
 | tail {u v w:Nat} (h:Mf g sh u v) (e:Ed g sh v w):Mf g sh u w
theorem Mf.trans {g:List (List Int)} {sh:List Bool} {u v w:Nat} (h:Mf g sh u v) (k:Mf g sh v w):Mf g sh u w:=by
 induction k with
 | refl=>exact h
 | tail _ e ih=>exact ih.tail e
def Sx (g:List (List Int)) (sh:List Bool) (v:Nat) (x:Int):Prop:=∃y:Nat,x=(y:Int)∧Mf g sh v y∧Mf g sh y v∧∀z,Mf g sh v z→Mf g sh z v→y≤z
structure Sr where
 seen:List Nat
 low:List Nat
 at_:List Nat
 path:List Nat
 held:List Nat
 count:Nat
 names:List Int
def Sr.sn (s:Sr) (v:Nat):Nat:=s.seen.getD v 0
def Sr.lw (s:Sr) (v:Nat):Nat:=s.low.getD v 0
def Sr.ad (s:Sr) (v:Nat):Nat:=s.at_.getD v 0
def Sr.nm (s:Sr) (v:Nat):Int:=s.names.getD v (-1)
structure TJ (g:List (List Int)) (sh:List Bool) (SQ:Nat→Prop) (s:Sr):Prop where
 l1:s.seen.length=g.length
 l2:s.low.length=g.length
 l3:s.at_.length=g.length
 l4:s.names.length=g.length
 rng:∀v k,k<(g.getD v []).length→∃w:Nat,(g.getD v []).getD k 0=(w:Int)∧w<g.length
 cnt:∀v,s.sn v≤s.count
 inj:∀v w,s.sn v=s.sn w→s.sn v≠0→v=w
 VT:∀v,s.sn v≠0→v<g.length∧sh.getD v false=false
 at0:∀v,s.sn v=0→s.ad v=0
 atl:∀v,s.ad v≤(g.getD v []).length
 Lw:∀v,v∈s.held↔s.sn v≠0∧s.nm v<0
 hso:s.held.Pairwise fun a b=>s.sn a<s.sn b
 SE:∀p∈s.path,p∈s.held
 pso:s.path.Pairwise fun a b=>s.sn a<s.sn b
 nms:∀v,0≤s.nm v→s.sn v≠0∧Sx g sh v (s.nm v)
 nmc:∀v w,0≤s.nm v→Ed g sh v w→0≤s.nm w
 fin:∀x∈s.held,x∉s.path→s.ad x=(g.getD x []).length∧s.lw x<s.sn x
 edg:∀x∈s.held,∀k,k<s.ad x→∀w:Nat,(g.getD x []).getD k 0=(w:Int)→sh.getD w false=false→(s.sn w=0→SQ w)∧(w∈s.held→s.lw x≤s.sn w)
 low:∀x∈s.held,s.lw x≤s.sn x∧∃u∈s.held,s.sn u=s.lw x∧Mf g sh x u
 rch:∀p∈s.path,∀x∈s.held,s.sn p≤s.sn x→Mf g sh p x
 own:∀p∈s.path,∀x∈s.held,x∉s.path→s.sn p<s.sn x→(∀q∈s.path,s.sn q≤s.sn x→s.sn q≤s.sn p)→s.lw p≤s.lw x
 anc:∀x∈s.held,∃p∈s.path,s.sn p≤s.sn x
 nmx:∀v,s.nm v<0→s.nm v=-1
def Sr.enter (s:Sr) (v:Nat):Sr:={s with count:=s.count+1,seen:=s.seen.set v (s.count+1),low:=s.low.set v (s.count+1),path:=s.path++[v],held:=s.held++[v]}
def Nx:Nat→Prop:=fun _=>False
theorem TJ.enter {g:List (List Int)} {sh:List Bool} {s:Sr} {v:Nat} (h:TJ g sh (fun w=>w=v) s) (hv:v<g.length) (ho:sh.getD v false=false) (h0:s.sn v=0) (hp:∀p∈s.path,Mf g sh p v):TJ g sh Nx (s.enter v):=by
 have Cy:∀w,(s.enter v).sn w=if w=v then s.count+1 else s.sn w:=fun w=>DU _ _ _ _ _ (by rw[h.l1];exact hv)
 have lw':∀w,(s.enter v).lw w=if w=v then s.count+1 else s.lw w:=fun w=>DU _ _ _ _ _ (by rw[h.l2];exact hv)
 have Om:v∉s.held:=fun hm=>((h.Lw v).1 hm).1 h0;have BC:∀x∈s.held,x≠v:=fun x hx e=>Om (e ▸ hx);have mh:∀x,x∈(s.enter v).held↔x∈s.held∨x=v:=fun x=>by simp[Sr.enter]
 have mp:∀x,x∈(s.enter v).path↔x∈s.path∨x=v:=fun x=>by simp[Sr.enter]
 have Ti:∀x∈s.held,(s.enter v).sn x=s.sn x:=fun x hx=>by rw[Cy,if_neg (BC x hx)]
 have lwh:∀x∈s.held,(s.enter v).lw x=s.lw x:=fun x hx=>by rw[lw',if_neg (BC x hx)]
 have snv:(s.enter v).sn v=s.count+1:=by rw[Cy,if_pos rfl]
 have lwv:(s.enter v).lw v=s.count+1:=by rw[lw',if_pos rfl]
 have nmv:s.nm v<0:=by
   rcases Int.lt_or_le (s.nm v) 0 with h1 | h1
   · exact h1
   · exact absurd h0 (h.nms v h1).1
 refine ⟨by simp[Sr.enter,h.l1],by simp[Sr.enter,h.l2],h.l3,h.l4,h.rng,?_,?_,?_,?_,h.atl,?_,?_,?_,?_,?_,h.nmc,?_,?_,?_,?_,?_,?_,h.nmx⟩
 · intro w;rw[Cy];have:=h.cnt w;show _≤s.count+1;split<;>omega
 · intro a b;rw[Cy,Cy];have ha:=h.cnt a;have hb:=h.cnt b
   by_cases e1:a=v
   · by_cases e2:b=v
     · intros;omega
     · rw[if_pos e1,if_neg e2];intros;omega
   · by_cases e2:b=v
     · rw[if_neg e1,if_pos e2];intros;omega
     · rw[if_neg e1,if_neg e2];exact h.inj a b
 · intro w;rw[Cy];split
   · rename_i e;subst e;exact fun _=>⟨hv,ho⟩
   · exact h.VT w
 · intro w;rw[Cy];split
   · intro;omega
   · exact h.at0 w
 · intro w;rw[mh,Cy];by_cases e:w=v
   · subst e;simp only[or_true,if_true,true_iff];exact ⟨by omega,nmv⟩
   · rw[if_neg e];simp only[e,or_false];rw[h.Lw];exact Iff.rfl
 · show (s.held++[v]).Pairwise _
   rw[List.pairwise_append];refine ⟨?_,by simp,fun a ha b hb=>?_⟩
   · exact List.Pairwise.imp_of_mem (fun ha hb Vq=>by rw[Ti _ ha,Ti _ hb];exact Vq) h.hso
   · rw[List.mem_singleton.1 hb,Ti a ha,snv];have:=h.cnt a;omega
 · intro p hp';rw[mh];rcases (mp p).1 hp' with h1 | h1
   · exact .inl (h.SE p h1)
   · exact .inr h1
 · show (s.path++[v]).Pairwise _
   rw[List.pairwise_append];refine ⟨?_,by simp,fun a ha b hb=>?_⟩
   · exact List.Pairwise.imp_of_mem (fun ha hb Vq=>by rw[Ti _ (h.SE _ ha),Ti _ (h.SE _ hb)];exact Vq) h.pso
   · rw[List.mem_singleton.1 hb,Ti a (h.SE a ha),snv];have:=h.cnt a;omega
 · intro w hw;have:=h.nms w hw;refine ⟨?_,this.2⟩;rw[Cy];split
   · omega
   · exact this.1
 · intro x Rx hp';rcases (mh x).1 Rx with h1 | h1
   · have KP:x∉s.path:=fun hm=>hp' ((mp x).2 (.inl hm));rw[lwh x h1,Ti x h1];exact h.fin x h1 KP
   · exact absurd ((mp x).2 (.inr h1)) hp'
 · intro x Rx k hk w hw how;have hk':k<s.ad x:=hk;rcases (mh x).1 Rx with h1 | h1
   · obtain ⟨a,b⟩:=h.edg x h1 k hk' w hw how;by_cases Ve:w=v
     · rw[Cy,if_pos Ve,lwh x h1];have h3:=(h.low x h1).1;have h4:=h.cnt x;exact ⟨fun h=>by omega,fun _=>by omega⟩
     · rw[Cy,if_neg Ve,lwh x h1];refine ⟨fun h5=>absurd (a h5) Ve,fun hm=>?_⟩;rcases (mh w).1 hm with h2 | h2
       · exact b h2
       · exact absurd h2 Ve
   · subst h1;have:=h.at0 x h0;omega
 · intro x Rx;rcases (mh x).1 Rx with h1 | h1
   · obtain ⟨a,u,b,c,d⟩:=h.low x h1;rw[lwh x h1,Ti x h1];exact ⟨a,u,(mh u).2 (.inl b),by rw[Ti u b];exact c,d⟩
   · subst h1;rw[lwv,snv];exact ⟨Nat.le_refl _,x,(mh x).2 (.inr rfl),snv,.refl x⟩
 · intro p hp' x Rx;rcases (mp p).1 hp' with h1 | h1
   · rcases (mh x).1 Rx with h2 | h2
     · rw[Ti p (h.SE p h1),Ti x h2];exact h.rch p h1 x h2
     · subst h2;intro _;exact hp p h1
   · subst h1;rcases (mh x).1 Rx with h2 | h2
     · rw[snv,Ti x h2];have:=h.cnt x;intro;omega
     · subst h2;intro _;exact .refl x
 · intro p hp' x Rx KP AL hq;rcases (mh x).1 Rx with h2 | h2
   · have Awr:x∉s.path:=fun hm=>KP ((mp x).2 (.inl hm));rcases (mp p).1 hp' with h1 | h1
     · rw[lwh p (h.SE p h1),lwh x h2];rw[Ti p (h.SE p h1),Ti x h2] at AL;refine h.own p h1 x h2 Awr AL fun q Yq Yp=>?_;have:=hq q ((mp q).2 (.inl Yq));rw[Ti q (h.SE q Yq),Ti x h2,Ti p (h.SE p h1)] at this;exact this Yp
     · subst h1;rw[snv,Ti x h2] at AL;have:=h.cnt x;omega
   · exact absurd ((mp x).2 (.inr h2)) KP
 · intro x Rx;rcases (mh x).1 Rx with h2 | h2
   · obtain ⟨p,h3,h4⟩:=h.anc x h2;exact ⟨p,(mp p).2 (.inl h3),by rw[Ti p (h.SE p h3),Ti x h2];exact h4⟩
   · exact ⟨v,(mp v).2 (.inr rfl),by rw[h2];exact Nat.le_refl _⟩
theorem TJ.last {g:List (List Int)} {sh:List Bool} {SQ:Nat→Prop} {s:Sr} (h:TJ g sh SQ s) {ps:List Nat} {v:Nat} (hp:s.path=ps++[v]):v∈s.path∧v∈s.held∧v<g.length∧sh.getD v false=false∧(∀q∈s.path,s.sn q≤s.sn v)∧(∀q∈ps,s.sn q<s.sn v)∧v∉ps:=by
 have hv:v∈s.path:=by rw[hp];simp
 have hh:=h.SE v hv;have ho:=h.VT v ((h.Lw v).1 hh).1;have AL:∀q∈ps,s.sn q<s.sn v:=by
   have:=h.pso;rw[hp,List.pairwise_append] at this;exact fun q hq=>this.2.2 q hq v (by simp)
 refine ⟨hv,hh,ho.1,ho.2,fun q hq=>?_,AL,fun hm=>?_⟩
 · rw[hp] at hq;rcases List.mem_append.1 hq with h1 | h1
   · exact Nat.le_of_lt (AL q h1)
   · rw[List.mem_singleton.1 h1];exact Nat.le_refl _
 · have:=AL v hm;omega
theorem TJ.step {g:List (List Int)} {sh:List Bool} {s s':Sr} {SQ:Nat→Prop} (h:TJ g sh Nx s) {ps:List Nat} {v w L:Nat} (hp:s.path=ps++[v]) (hk:s.ad v<(g.getD v []).length) (hw:(g.getD v []).getD (s.ad v) 0=(w:Int))
   (e1:s'.seen=s.seen) (e2:∀x,s'.lw x=if x=v then L else s.lw x) (e2':s'.low.length=s.low.length) (e3:∀x,s'.ad x=if x=v then s.ad v+1 else s.ad x) (e3':s'.at_.length=s.at_.length)
   (e4:s'.path=s.path) (e5:s'.held=s.held) (e6:s'.count=s.count) (e7:s'.names=s.names)
   (hL:L≤s.lw v) (hu:∃u∈s.held,s.sn u=L∧Mf g sh v u) (hq:sh.getD w false=false→(s.sn w=0→SQ w)∧(w∈s.held→L≤s.sn w)):TJ g sh SQ s':=by
 obtain ⟨Zo,Om,LU,hvo,RC,_,_⟩:=h.last hp;have Cy:∀x,s'.sn x=s.sn x:=fun x=>by unfold Sr.sn;rw[e1]
 have nm':∀x,s'.nm x=s.nm x:=fun x=>by unfold Sr.nm;rw[e7]
 refine ⟨by rw[e1];exact h.l1,by rw[e2'];exact h.l2,by rw[e3'];exact h.l3,by rw[e7];exact h.l4,h.rng,?_,?_,?_,?_,?_,?_,?_,?_,?_,?_,?_,?_,?_,?_,?_,?_,?_,fun x=>by rw[nm'];exact h.nmx x⟩
 · intro x;rw[Cy,e6];exact h.cnt x
 · intro a b;rw[Cy,Cy];exact h.inj a b
 · intro x;rw[Cy];exact h.VT x
 · intro x;rw[Cy,e3];split
   · rename_i e;subst e;intro h0;exact absurd h0 ((h.Lw x).1 Om).1
   · exact h.at0 x
 · intro x;rw[e3];split
   · rename_i e;subst e;omega
   · exact h.atl x
 · intro x;rw[e5,Cy,nm'];exact h.Lw x
 · rw[e5];exact h.hso.imp fun Vq=>by rw[Cy,Cy];exact Vq
 · rw[e4,e5];exact h.SE
 · rw[e4];exact h.pso.imp fun Vq=>by rw[Cy,Cy];exact Vq
 · intro x;rw[nm',Cy];exact h.nms x
 · intro x y;rw[nm',nm'];exact h.nmc x y
 · intro x hx KP;rw[e5] at hx;rw[e4] at KP;have BC:x≠v:=fun e=>KP (e ▸ Zo);rw[e3,e2,Cy,if_neg BC,if_neg BC];exact h.fin x hx KP
 · intro x hx k hk' y hy hyo;rw[e5] at hx;rw[e3] at hk';rw[Cy,e5,e2];by_cases Yk:x=v
   · subst Yk;rw[if_pos rfl] at hk' ⊢;by_cases HL:k=s.ad x
     · subst HL;rw[hw] at hy;obtain rfl:w=y:=by omega
       exact hq hyo
     · obtain ⟨a,b⟩:=h.edg x hx k (by omega) y hy hyo;exact ⟨fun h0=>(a h0).elim,fun hm=>Nat.le_trans hL (b hm)⟩
   · rw[if_neg Yk] at hk' ⊢;obtain ⟨a,b⟩:=h.edg x hx k hk' y hy hyo;exact ⟨fun h0=>(a h0).elim,b⟩
 · intro x hx;rw[e5] at hx;obtain ⟨a,u,b,c,d⟩:=h.low x hx;rw[e2,Cy];by_cases Yk:x=v
   · subst Yk;rw[if_pos rfl];obtain ⟨u2,b2,c2,d2⟩:=hu;exact ⟨by omega,u2,by rw[e5];exact b2,by rw[Cy];exact c2,d2⟩
   · rw[if_neg Yk];exact ⟨a,u,by rw[e5];exact b,by rw[Cy];exact c,d⟩
 · intro p hp' x hx;rw[e4] at hp';rw[e5] at hx;rw[Cy,Cy];exact h.rch p hp' x hx
 · intro p hp' x hx KP AL Yr;rw[e4] at hp' KP Yr;rw[e5] at hx;rw[Cy,Cy] at AL;have BC:x≠v:=fun e=>KP (e ▸ Zo);have:=h.own p hp' x hx KP AL fun q h1 h2=>by have:=Yr q h1;rw[Cy,Cy,Cy] at this;exact this h2
   rw[e2,e2,if_neg BC];split
   · rename_i e;subst e;omega
   · exact this
 · intro x hx;rw[e5] at hx;obtain ⟨p,h1,h2⟩:=h.anc x hx;exact ⟨p,by rw[e4];exact h1,by rw[Cy,Cy];exact h2⟩
theorem Agj {g:List (List Int)} {sh:List Bool} {x w:Nat} (h:Ed g sh x w):∃k,k<(g.getD x []).length∧(g.getD x []).getD k 0=(w:Int):=by
 obtain ⟨k,hk,he⟩:=List.mem_iff_getElem.1 h.1;refine ⟨k,hk,?_⟩;generalize g.getD x []=l at*;rw[←he];simp[List.getD,hk]
theorem TJ.named {g:List (List Int)} {sh:List Bool} {SQ:Nat→Prop} {s:Sr} (h:TJ g sh SQ s) {v w:Nat} (hv:0≤s.nm v) (hr:Mf g sh v w):0≤s.nm w:=by
 induction hr with
 | refl=>exact hv
 | tail _ e ih=>exact h.nmc _ _ ih e
theorem TJ.comp {g:List (List Int)} {sh:List Bool} {s:Sr} (h:TJ g sh Nx s) {ps:List Nat} {v:Nat} (hp:s.path=ps++[v]) (ha:s.ad v=(g.getD v []).length) (hl:s.lw v=s.sn v):
   (∀x∈s.held,s.sn v≤s.sn x→s.lw v≤s.lw x∧Mf g sh v x∧Mf g sh x v∧∀y,Ed g sh x y→0≤s.nm y∨(y∈s.held∧s.sn v≤s.sn y))∧∀y,Mf g sh v y→Mf g sh y v→y∈s.held∧s.sn v≤s.sn y:=by
 obtain ⟨Zo,Om,LU,hvo,RC,_,_⟩:=h.last hp;have Aqi:∀x∈s.held,s.sn v≤s.sn x→s.lw v≤s.lw x∧(x=v∨x∉s.path):=by
   intro x hx hsx;by_cases Yk:x=v
   · exact ⟨by rw[Yk];exact Nat.le_refl _,.inl Yk⟩
   · have BC:s.sn v≠s.sn x:=fun e=>Yk (h.inj x v e.symm ((h.Lw x).1 hx).1);have KP:x∉s.path:=fun hm=>by have:=RC x hm;omega
     exact ⟨h.own v Zo x hx KP (by omega) fun q hq _=>RC q hq,.inr KP⟩
 have EK:∀n,∀x∈s.held,s.sn v≤s.sn x→s.sn x≤n→Mf g sh x v:=by
   intro n
   induction n with
   | zero=>intro x hx _ h0;exact absurd (Nat.le_zero.1 h0) ((h.Lw x).1 hx).1
   | succ n ih=>
     intro x hx hsx hn;obtain ⟨Yt,hor⟩:=Aqi x hx hsx;rcases hor with rfl | KP
     · exact .refl _
     · obtain ⟨_,hf⟩:=h.fin x hx KP;obtain ⟨_,u,hu,hul,hru⟩:=h.low x hx;exact hru.trans (ih u hu (by omega) (by omega))
 have Ot:∀x∈s.held,s.sn v≤s.sn x→∀y,Ed g sh x y→0≤s.nm y∨(y∈s.held∧s.sn v≤s.sn y):=by
   intro x hx hsx y hy;obtain ⟨Yt,hor⟩:=Aqi x hx hsx;have B4:s.ad x=(g.getD x []).length:=by
     rcases hor with rfl | KP
     · exact ha
     · exact (h.fin x hx KP).1
   obtain ⟨k,hk,hky⟩:=Agj hy;obtain ⟨a,b⟩:=h.edg x hx k (by omega) y hky hy.2;have hsy:s.sn y≠0:=fun e=>(a e).elim;rcases Int.lt_or_le (s.nm y) 0 with h1 | h1
   · have hyh:=(h.Lw y).2 ⟨hsy,h1⟩;have:=b hyh;exact .inr ⟨hyh,by omega⟩
   · exact .inl h1
 refine ⟨fun x hx hsx=>⟨(Aqi x hx hsx).1,h.rch v Zo x hx hsx,EK _ x hx hsx (Nat.le_refl _),Ot x hx hsx⟩,fun y h1 h2=>?_⟩;have key:∀y,Mf g sh v y→0≤s.nm y∨(y∈s.held∧s.sn v≤s.sn y):=by
   intro y hy
   induction hy with
   | refl=>exact .inr ⟨Om,Nat.le_refl _⟩
   | tail _ e ih=>
     rcases ih with h3 | h3
     · exact .inl (h.nmc _ _ h3 e)
     · exact Ot _ h3.1 h3.2 _ e
 rcases key y h1 with h3 | h3
 · have:=h.named h3 h2;have:=((h.Lw v).1 Om).2;omega
 · exact h3
theorem TJ.complete {g:List (List Int)} {sh:List Bool} {s s':Sr} (h:TJ g sh Nx s) {ps:List Nat} {v:Nat} (hp:s.path=ps++[v]) (ha:s.ad v=(g.getD v []).length) (hl:s.lw v=s.sn v) {y0:Nat}
   (hy:y0∈s.held∧s.sn v≤s.sn y0) (Qf:∀z∈s.held,s.sn v≤s.sn z→y0≤z)
   (e1:s'.seen=s.seen) (e2:s'.low=s.low) (e3:s'.at_=s.at_) (e4:s'.path=ps) (e5:∀x,x∈s'.held↔x∈s.held∧s.sn x<s.sn v) (e5':s'.held.Pairwise fun a b=>s.sn a<s.sn b) (e6:s'.count=s.count)
   (e7:∀x,s'.nm x=if x∈s.held∧s.sn v≤s.sn x then (y0:Int) else s.nm x) (e7':s'.names.length=s.names.length):TJ g sh Nx s':=by
 obtain ⟨Zo,Om,LU,hvo,RC,hps,Amj⟩:=h.last hp;obtain ⟨hK,hC⟩:=h.comp hp ha hl;have Cy:∀x,s'.sn x=s.sn x:=fun x=>by unfold Sr.sn;rw[e1]
 have lw':∀x,s'.lw x=s.lw x:=fun x=>by unfold Sr.lw;rw[e2]
 have ad':∀x,s'.ad x=s.ad x:=fun x=>by unfold Sr.ad;rw[e3]
 have GA:∀p∈ps,p∈s.path:=fun p Jq=>by rw[hp];simp[Jq]
 have At6:∀x∈s.held,s.sn x<s.sn v→x∉ps→x∉s.path:=fun x hx AL hn hm=>by
   rw[hp] at hm;rcases List.mem_append.1 hm with h1 | h1
   · exact hn h1
   · rw[List.mem_singleton.1 h1] at AL;omega
 refine ⟨by rw[e1];exact h.l1,by rw[e2];exact h.l2,by rw[e3];exact h.l3,by rw[e7'];exact h.l4,h.rng,?_,?_,?_,?_,?_,?_,?_,?_,?_,?_,?_,?_,?_,?_,?_,?_,?_,fun x hx=>by rw[e7] at hx ⊢;(by_cases hn:x∈s.held∧s.sn v≤s.sn x);(rw[if_pos hn] at hx;omega);(rw[if_neg hn] at hx ⊢;exact h.nmx x hx)⟩
 · intro x;rw[Cy,e6];exact h.cnt x
 · intro a b;rw[Cy,Cy];exact h.inj a b
 · intro x;rw[Cy];exact h.VT x
 · intro x;rw[Cy,ad'];exact h.at0 x
 · intro x;rw[ad'];exact h.atl x
 · intro x;rw[e5,Cy,e7];constructor
   · rintro ⟨hxh,c⟩;obtain ⟨a,b⟩:=(h.Lw x).1 hxh;rw[if_neg (fun hh=>by omega)];exact ⟨a,b⟩
   · rintro ⟨a,b⟩;split at b
     · omega
     · rename_i hn;refine ⟨(h.Lw x).2 ⟨a,b⟩,?_⟩;rcases Nat.lt_or_ge (s.sn x) (s.sn v) with h1 | h1
       · exact h1
       · exact absurd ⟨(h.Lw x).2 ⟨a,b⟩,h1⟩ hn
 · exact e5'.imp fun Vq=>by rw[Cy,Cy];exact Vq
 · intro p Jq;rw[e4] at Jq;exact (e5 p).2 ⟨h.SE p (GA p Jq),hps p Jq⟩
 · rw[e4];have:=h.pso;rw[hp,List.pairwise_append] at this;exact this.1.imp fun Vq=>by rw[Cy,Cy];exact Vq
 · intro x hx;rw[e7] at hx ⊢;rw[Cy];split at hx
   · rename_i NQ;rw[if_pos NQ];obtain ⟨_,k2,k3,_⟩:=hK x NQ.1 NQ.2;obtain ⟨_,k5,k6,_⟩:=hK y0 hy.1 hy.2;refine ⟨((h.Lw x).1 NQ.1).1,y0,rfl,k3.trans k5,k6.trans k2,fun z hz1 hz2=>?_⟩;obtain ⟨m1,m2⟩:=hC z (k2.trans hz1) (hz2.trans k3);exact Qf z m1 m2
   · rename_i hn;rw[if_neg hn];exact h.nms x hx
 · intro x y hx hxy;rw[e7] at hx ⊢;split
   · omega
   · rename_i hny;split at hx
     · rename_i NQ;rcases (hK x NQ.1 NQ.2).2.2.2 y hxy with h1 | h1
       · exact h1
       · exact absurd h1 hny
     · exact h.nmc x y hx hxy
 · intro x hx KP;rw[e4] at KP;obtain ⟨h1,h2⟩:=(e5 x).1 hx;rw[ad',lw',Cy];exact h.fin x h1 (At6 x h1 h2 KP)
 · intro x hx k hk y hy hyo;obtain ⟨h1,h2⟩:=(e5 x).1 hx;rw[ad'] at hk;rw[Cy,lw'];obtain ⟨a,b⟩:=h.edg x h1 k hk y hy hyo;exact ⟨a,fun hm=>b ((e5 y).1 hm).1⟩
 · intro x hx;obtain ⟨h1,h2⟩:=(e5 x).1 hx;obtain ⟨a,u,b,c,d⟩:=h.low x h1;rw[lw',Cy];exact ⟨a,u,(e5 u).2 ⟨b,by omega⟩,by rw[Cy];exact c,d⟩
 · intro p Jq x hx;rw[e4] at Jq;rw[Cy,Cy];exact h.rch p (GA p Jq) x ((e5 x).1 hx).1
 · intro p Jq x hx KP AL hq;rw[e4] at Jq KP hq;obtain ⟨h1,h2⟩:=(e5 x).1 hx;rw[Cy,Cy] at AL;rw[lw',lw'];refine h.own p (GA p Jq) x h1 (At6 x h1 h2 KP) AL fun q Yq Yp=>?_;rw[hp] at Yq;rcases List.mem_append.1 Yq with h3 | h3
   · have:=hq q h3;rw[Cy,Cy,Cy] at this;exact this Yp
   · rw[List.mem_singleton.1 h3] at Yp;omega
 · intro x hx;obtain ⟨h1,h2⟩:=(e5 x).1 hx;obtain ⟨p,h3,h4⟩:=h.anc x h1;rw[hp] at h3;rcases List.mem_append.1 h3 with h5 | h5
   · exact ⟨p,by rw[e4];exact h5,by rw[Cy,Cy];exact h4⟩
   · rw[List.mem_singleton.1 h5] at h4;omega
theorem TJ.back {g:List (List Int)} {sh:List Bool} {s s':Sr} (h:TJ g sh Nx s) {ps:List Nat} {v t:Nat} (hp:s.path=ps++[t]++[v]) (ha:s.ad v=(g.getD v []).length) (hl:s.lw v≠s.sn v)
   (e1:s'.seen=s.seen) (e2:∀x,s'.lw x=if x=t then min (s.lw t) (s.lw v) else s.lw x) (e2':s'.low.length=s.low.length) (e3:s'.at_=s.at_) (e4:s'.path=ps++[t]) (e5:s'.held=s.held) (e6:s'.count=s.count) (e7:s'.names=s.names):TJ g sh Nx s':=by
 obtain ⟨Zo,Om,LU,hvo,RC,hps,Amj⟩:=h.last hp;have Cy:∀x,s'.sn x=s.sn x:=fun x=>by unfold Sr.sn;rw[e1]
 have nm':∀x,s'.nm x=s.nm x:=fun x=>by unfold Sr.nm;rw[e7]
 have ad':∀x,s'.ad x=s.ad x:=fun x=>by unfold Sr.ad;rw[e3]
 have hlv:=h.low v Om;have GA:∀p∈ps++[t],p∈s.path:=fun p Jq=>by rw[hp,List.mem_append];exact .inl Jq
 have htp:t∈s.path:=GA t (by simp);have hth:=h.SE t htp;have htv:s.sn t<s.sn v:=hps t (by simp);have Zt:∀q∈ps++[t],s.sn q≤s.sn t:=by
   have:=h.pso;rw[hp,List.pairwise_append,List.pairwise_append] at this;intro q hq;rcases List.mem_append.1 hq with h1 | h1
   · exact Nat.le_of_lt (this.1.2.2 q h1 t (by simp))
   · rw[List.mem_singleton.1 h1];exact Nat.le_refl _
 have AL:s.lw v<s.sn v:=by omega
 have Ry:∀q,q∈s.path↔q∈ps++[t]∨q=v:=fun q=>by rw[hp,List.mem_append,List.mem_singleton]
 refine ⟨by rw[e1];exact h.l1,by rw[e2'];exact h.l2,by rw[e3];exact h.l3,by rw[e7];exact h.l4,h.rng,?_,?_,?_,?_,?_,?_,?_,?_,?_,?_,?_,?_,?_,?_,?_,?_,?_,fun x=>by rw[nm'];exact h.nmx x⟩
 · intro x;rw[Cy,e6];exact h.cnt x
 · intro a b;rw[Cy,Cy];exact h.inj a b
 · intro x;rw[Cy];exact h.VT x
 · intro x;rw[Cy,ad'];exact h.at0 x
 · intro x;rw[ad'];exact h.atl x
 · intro x;rw[e5,Cy,nm'];exact h.Lw x
 · rw[e5];exact h.hso.imp fun Vq=>by rw[Cy,Cy];exact Vq
 · intro p Jq;rw[e4] at Jq;rw[e5];exact h.SE p (GA p Jq)
 · rw[e4];have:=h.pso;rw[hp,List.pairwise_append] at this;exact this.1.imp fun Vq=>by rw[Cy,Cy];exact Vq
 · intro x;rw[nm',Cy];exact h.nms x
 · intro x y;rw[nm',nm'];exact h.nmc x y
 · intro x hx KP;rw[e5] at hx;rw[e4] at KP;have hxt:x≠t:=fun e=>KP (by rw[e];simp);rw[ad',e2,if_neg hxt,Cy];by_cases Yk:x=v
   · subst Yk;exact ⟨ha,AL⟩
   · exact h.fin x hx fun hm=>by exact ((Ry x).1 hm).elim KP Yk
 · intro x hx k hk y hy hyo;rw[e5] at hx;rw[ad'] at hk;rw[Cy,e5,e2];obtain ⟨a,b⟩:=h.edg x hx k hk y hy hyo;refine ⟨a,fun hm=>?_⟩;have:=b hm;split
   · rename_i e;subst e;omega
   · exact this
 · intro x hx;rw[e5] at hx;obtain ⟨a,u,b,c,d⟩:=h.low x hx;rw[e2,Cy];by_cases hxt:x=t
   · subst hxt;rw[if_pos rfl];refine ⟨by omega,?_⟩;rcases Nat.le_total (s.lw x) (s.lw v) with h1 | h1
     · exact ⟨u,by rw[e5];exact b,by rw[Cy,Nat.min_eq_left h1];exact c,d⟩
     · obtain ⟨_,u2,b2,c2,d2⟩:=hlv;exact ⟨u2,by rw[e5];exact b2,by rw[Cy,Nat.min_eq_right h1];exact c2,(h.rch x htp v Om (by omega)).trans d2⟩
   · rw[if_neg hxt];exact ⟨a,u,by rw[e5];exact b,by rw[Cy];exact c,d⟩
 · intro p Jq x hx;rw[e4] at Jq;rw[e5] at hx;rw[Cy,Cy];exact h.rch p (GA p Jq) x hx
 · intro p Jq x hx KP Qh hq;rw[e4] at Jq KP hq;rw[e5] at hx;rw[Cy,Cy] at Qh;have hxt:x≠t:=fun e=>KP (by rw[e];simp);have Yp:∀q∈ps++[t],s.sn q≤s.sn x→s.sn q≤s.sn p:=fun q h1 h2=>by have:=hq q h1;rw[Cy,Cy,Cy] at this;exact this h2
   rw[e2,e2,if_neg hxt];have base:s.sn v≤s.sn x→p=t∧s.lw v≤s.lw x:=by
     intro Lu;have h1:=Yp t (by simp) (by omega);have h2:=Zt p Jq;have hpt:p=t:=h.inj p t (by omega) ((h.Lw p).1 (h.SE p (GA p Jq))).1;refine ⟨hpt,?_⟩;by_cases Yk:x=v
     · rw[Yk];exact Nat.le_refl _
     · have BC:s.sn v≠s.sn x:=fun e=>Yk (h.inj x v e.symm ((h.Lw x).1 hx).1);exact h.own v Zo x hx (fun hm=>by exact ((Ry x).1 hm).elim KP Yk) (by omega) fun q Yq _=>RC q Yq
   rcases Nat.lt_or_ge (s.sn x) (s.sn v) with Lu | Lu
   · have:=h.own p (GA p Jq) x hx (fun hm=>by
       rcases (Ry x).1 hm with h3 | h3
       · exact KP h3
       · rw[h3] at Lu;omega) Qh fun q Yq hq3=>by
         rcases (Ry q).1 Yq with h3 | h3
         · exact Yp q h3 hq3
         · rw[h3] at hq3;omega
     split
     · rename_i e;subst e;omega
     · exact this
   · obtain ⟨h1,h2⟩:=base Lu;rw[if_pos h1];omega
 · intro x hx;rw[e5] at hx;obtain ⟨p,h3,h4⟩:=h.anc x hx;rcases (Ry p).1 h3 with h5 | h5
   · exact ⟨p,by rw[e4];exact h5,by rw[Cy,Cy];exact h4⟩
   · rw[h5] at h4;exact ⟨t,by rw[e4];simp,by rw[Cy,Cy];omega⟩
theorem TJ.root {g:List (List Int)} {sh:List Bool} {s:Sr} (h:TJ g sh Nx s) {v:Nat} (hp:s.path=[v]):s.lw v=s.sn v:=by
 obtain ⟨Zo,Om,_⟩:=h.last (ps:=[]) (v:=v) hp;obtain ⟨a,u,b,c,_⟩:=h.low v Om;obtain ⟨p,h1,h2⟩:=h.anc u b;rw[hp] at h1;rw[List.mem_singleton.1 h1] at h2;omega
def SL (n:Nat) (f:Nat→Nat):Nat:=((List.range n).map f).sum
theorem G2 (n:Nat) (f:Nat→Nat):SL (n+1) f=SL n f+f n:=by simp[SL,List.range_succ]
theorem YD (n:Nat) {f f':Nat→Nat} (h:∀x,x<n→f' x=f x):SL n f'=SL n f:=by
 induction n with
 | zero=>rfl
 | succ n ih=>rw[G2,G2,ih (fun x hx=>h x (by omega)),h n (by omega)]
theorem Wm {n v d:Nat} {f f':Nat→Nat} (hv:v<n) (h:∀x,x≠v→f' x=f x) (h1:f' v+d=f v):SL n f'+d=SL n f:=by
 induction n with
 | zero=>omega
 | succ n ih=>
   rw[G2,G2];by_cases e:v=n
   · subst e;rw[YD v (f:=f) (f':=f') (fun x hx=>h x (by omega))];omega
   · have:=ih (by omega);rw[h n (Ne.symm e)];omega
def OJ (g:List (List Int)) (s:Sr):Nat:=SL g.length fun v=>(g.getD v []).length - s.ad v
def JP (g:List (List Int)) (s:Sr):Nat:=SL g.length fun v=>if s.sn v=0 then 1 else 0
def FM (g:List (List Int)) (s:Sr):Nat:=OJ g s+2*JP g s+s.path.length
theorem OH {g:List (List Int)} {s s':Sr} {v:Nat} (hv:v<g.length) (hk:s.ad v<(g.getD v []).length) (h:∀x,s'.ad x=if x=v then s.ad v+1 else s.ad x):OJ g s'+1=OJ g s:=by
 unfold OJ;refine Wm hv (fun x hx=>by rw[h,if_neg hx]) ?_;rw[h,if_pos rfl];omega
theorem OI {g:List (List Int)} {s s':Sr} (h:s'.at_=s.at_):OJ g s'=OJ g s:=by unfold OJ Sr.ad;rw[h]
theorem FY {g:List (List Int)} {s s':Sr} (h:s'.seen=s.seen):JP g s'=JP g s:=by unfold JP Sr.sn;rw[h]
theorem Aa2 {g:List (List Int)} {s:Sr} {v:Nat} (hv:v<g.length) (hl:s.seen.length=g.length) (h0:s.sn v=0):JP g (s.enter v)+1=JP g s:=by
 have Cy:∀w,(s.enter v).sn w=if w=v then s.count+1 else s.sn w:=fun w=>DU _ _ _ _ _ (by rw[hl];exact hv)
 unfold JP;refine Wm hv (fun x hx=>by rw[Cy,if_neg hx]) ?_;rw[Cy,if_pos rfl,h0];simp
theorem Afa (g:List (List Int)) (s:Sr):JP g s≤g.length:=by
 unfold JP;generalize g.length=n
 induction n with
 | zero=>exact Nat.le_refl _
 | succ n ih=>rw[G2];split<;>omega
theorem Aoz (n:Int) (h0:0≤n) (h1:n≤24):IntKind.u64.wrap n=n:=Tc n h0 (by omega)
theorem Ap0 (n:Int) (h0:0≤n) (h1:n≤24):IntKind.i64.wrap n=n:=by
 simp[IntKind.wrap,IntKind.bits,IntKind.signed];omega
def Hh (n k:Nat):List Int:=List.replicate k (-1)++List.replicate (n - k) 0
theorem Wy (n k:Nat) (h:k≤n):(Hh n k).length=n:=by simp[Hh];omega
theorem Aah (n:Nat):Hh n n=List.replicate n (-1):=by simp[Hh]
theorem Aag (n k:Nat) (h:k≤n):(Hh n k).take k++((Hh n k).take k).take (n - k)++(Hh n k).drop (k+min (n - k) k)=Hh n (k+min (n - k) k):=by
 have t1:(Hh n k).take k=List.replicate k (-1):=by simp[Hh]
 have t2:(List.replicate k (-1:Int)).take (n - k)=List.replicate (min (n - k) k) (-1):=by simp
 have t3:(Hh n k).drop (k+min (n - k) k)=List.replicate (n - (k+min (n - k) k)) 0:=by
   simp only[Hh,List.drop_append,List.length_replicate];rw[List.drop_eq_nil_of_le (by simp),List.nil_append,List.drop_replicate]
   congr 1;omega
 rw[t1,t2,t3,List.replicate_append_replicate];rfl
theorem Av5 (l:List Int):I1 1 (Ag l):=by simp[I1,Ag]
theorem Alp (n:Nat) (hn:n≤24):
   Aj Tryz.prog 117 [.p (.sl (Ag [-1])),.p (.int .i64 (n:Nat))] [] fun h d=>h=[(0,.arr 3 1 (Ag (List.replicate n (-1))))]∧d= .ref 0 0 n n:=by
 have h0:(0:Int)≤(n:Nat):=by omega
 have h1:((n:Nat):Int)≤24:=by omega
 have w1:=Aoz n h0 h1;have w2:=Ap0 n h0 h1;have c1:decide (((n:Nat):Int)<0)=false:=by simp
 have w3:IntKind.u64.wrap 1=1:=Tc 1 (by omega) (by omega);refine Ak Tryz.func117 rfl Ad7 (by simp[Tryz.f117]) ?_;simp only[go_sem,c1,w1,w3];refine Au ((Apu n h0 (by omega))) ?_;rintro h' r ⟨rfl,rfl⟩;have c2:decide (9223372036854775807<((n:Nat):Int))=false:=by simp;omega
 simp only[go_sem,c2,w2,Int.toNat_natCast];refine ⟨by omega,⟨⟨by simp[I1,Ag],by simp⟩,?_⟩⟩;refine Ao (fun k:Nat=>⟨[(7,.ref 30 0 n n),(8,.p (.int .i64 (k:Nat)))],[(30,.arr 3 1 (Ag (Hh n k)))],48⟩) (fun k=>k≤n∧(k=0→n=0)) (fun k=>n - k) (min n 1) ⟨by omega,by omega⟩
   ?_ ?_
 · rcases n with _ | n
   · exact (Wk.forget (by simp[Le,AG,Av,get,Aa,Ac,Ad,D.ids,Ai,AO.ids,Ae,base,Hh]))
   · have e1:min (n+1) 1=1:=by omega
     rw[e1];exact (Wk.forget (by simp[Le,AG,Av,get,Aa,Ac,Ad,D.ids,Ai,AO.ids,Ae,base,Ag,Hh]))
 rintro k m ⟨OZ,HL⟩ ih;cases c3:decide ((k:Int)<(n:Nat))
 · obtain rfl:k=n:=by have:=of_decide_eq_false c3;omega
   have hl:=Wy k k (Nat.le_refl _);simp only[go_sem,c3,hl];refine Bc ?_;simp only[go_sem,c3,hl,Aah]
 · have hk3:k<n:=by simpa using of_decide_eq_true c3
   have hl:=Wy n k (by omega);have h4:(0:Int)≤(k:Int)∧(k:Int)≤((n:Nat):Int):=by omega
   simp only[go_sem,c3,h4,hl];refine BB [(30,.arr 3 1 (Ag (Hh n k)))] mixed (p:=[(0,0),(1,0),(2,0),(3,0),(4,0),(5,0),(6,0),(7,4),(8,4),(9,4)]) (by kernel_rfl) (by simp[Av,get]) ?_;have RE:(Ag (Hh n k)).length=n:=by rw[Ab];exact hl
   have e1:(((n:Nat):Int) - (k:Int)).toNat=n - k:=by omega
   have e2:((k:Int) - 0).toNat=k:=by omega
   have e3:((Ag (Hh n k)).take k).length=k:=by rw[List.length_take,RE];omega
   have e4:IntKind.i64.wrap ((k:Int)+((min (n - k) k:Nat):Int))=((k+min (n - k) k:Nat):Int):=by
     simp[IntKind.wrap,IntKind.bits,IntKind.signed];omega
   have e5:(Ag (Hh n k)).take k++((Ag (Hh n k)).take k).take (n - k)++(Ag (Hh n k)).drop (k+min (n - k) k)=Ag (Hh n (k+min (n - k) k)):=by
     rw[←Aag n k OZ];simp[Ag,List.map_take,List.map_drop]
   have e6:I1 1 ((Ag (Hh n k)).take k):=by
     rw[JB];exact Av5 _
   simp only[go_sem,c3,h4,hl];simp only[e1,e2,e3,e4,e5];refine ⟨Int.le_refl _,⟨e6,by omega⟩,ih (k+min (n - k) k) _ ⟨by omega,by omega⟩ (by omega) (Wk.forget (by simp[Le,AG,Av,get,Aa,Ac,Ad,D.ids,Ai,AO.ids,Ae,base]))⟩
noncomputable def Jz (l:List UInt8):Option Bool:=some (Bs l)
theorem T5 (l:List UInt8) (r:Bool) (h:Jz l=some r):Aj Tryz.prog 42 [.p (.str l)] [] fun h d=>h=[]∧d= .p (.bool r):=by cases h;exact Ny l
noncomputable def Ho (a0:List Int) (a1:List Int):Int→Option ((Int)⊕(Int⊕Bool))
 | v3=>cond (decide (v3<((a0.length:Nat):Int))) (Option.bind (A0 a0 v3) fun x10=>Option.bind (A0 a1 v3) fun J8=>cond (decide (x10=J8)) (some (Sum.inl (IntKind.i64.wrap (v3+1)))) (some (Sum.inr (.inr ((false:Bool)))))) (some (Sum.inr (.inl v3)))
theorem E6 (a0:List Int) (a1:List Int) (v3:Int):Ho a0 a1 v3=cond (decide (v3<((a0.length:Nat):Int))) (Option.bind (A0 a0 v3) fun x10=>Option.bind (A0 a1 v3) fun J8=>cond (decide (x10=J8)) (some (Sum.inl (IntKind.i64.wrap (v3+1)))) (some (Sum.inr (.inr ((false:Bool)))))) (some (Sum.inr (.inl v3))):=rfl
noncomputable def Ec (a0:List Int) (a1:List Int):Option (Bool):=
 cond (decide (((a0.length:Nat):Int)=((a1.length:Nat):Int))) (Option.bind (AS (Ho a0 a1) 0) (fun | .inl j5=>some true | .inr (r20)=>some r20)) (some false)
theorem Qb (a0:List Int) (a1:List Int) (r:Bool) (hr:Ec a0 a1=some r):
   Aj Tryz.prog 26 [.p (.sl (Ag a0)),.p (.sl (Ag a1))] [] fun h d=>h=[]∧d= .p (.bool r):=by
 refine Ak Tryz.func26 rfl Aje (by simp[Tryz.f26]) ?_;unfold Ec at hr;cases c1:decide (((a0.length:Nat):Int)=((a1.length:Nat):Int))
 · simp only[c1,cond_false] at hr;obtain rfl:=Option.some.inj hr;try simp only[go_sem,c1]
   all_goals (try refine Ah ?_)
   all_goals (try simp only[go_sem,c1])
   all_goals (try (first | rfl | exact ⟨rfl,rfl⟩ | (simp;done)))
 simp only[c1,cond_true] at hr;obtain ⟨e7,g8,hr⟩:=bE hr;try simp only[go_sem,c1]
 refine Bl g8 (fun q:Int=>⟨[(0,.p (.sl (Ag a0))),(1,.p (.sl (Ag a1))),(5,.p (.int .i64 q))],[],26⟩) ((Wk.forget (by simp[Le,AG,Av,get,Aa,Ac,Ad,D.ids,Ai,AO.ids,Ae,base,ZE]))) ?_;rintro v3 m6 EJ WW;rw[E6] at EJ;cases c9:decide (v3<((a0.length:Nat):Int))
 · simp only[c9,cond_false] at EJ;simp only[Option.bind_some,Ar] at EJ;obtain rfl:=Option.some.inj EJ;try dsimp only at hr
   obtain rfl:=Option.some.inj hr;try simp only[go_sem,c9]
   all_goals (try refine Ah ?_)
   all_goals (try simp only[go_sem,c9])
   all_goals (try (first | rfl | exact ⟨rfl,rfl⟩ | (simp;done)))
 simp only[c9,cond_true] at EJ;try simp only[go_sem,c9]
 refine AY mixed (p:=[(0,0),(1,0),(2,0),(3,0),(4,0),(5,0),(6,0),(7,0),(8,0)]) (by kernel_rfl) (by simp[Av,get]) ?_;obtain ⟨x10,g11,EJ⟩:=bK EJ;have f12:=AA g11;have f13:(Ag a0).getD (Int.toNat v3) []=[(.int .i64 x10)]:=AB _ g11;obtain ⟨J8,g15,EJ⟩:=bK EJ;have f16:=AA g15;have f17:(Ag a1).getD (Int.toNat v3) []=[(.int .i64 J8)]:=AB _ g15;cases Io:decide (x10=J8)
 · simp only[Io,cond_false] at EJ;simp only[Option.bind_some,Ar] at EJ;obtain rfl:=Option.some.inj EJ;try dsimp only at hr
   obtain rfl:=Option.some.inj hr;try simp only[go_sem,f12,f13,f16,f17,Io]
   all_goals (try refine Ah ?_)
   all_goals (try simp only[go_sem,f12,f13,f16,f17,Io])
   all_goals (try (first | rfl | exact ⟨rfl,rfl⟩ | (simp;done)))
 simp only[Io,cond_true] at EJ;simp only[Option.bind_some,At] at EJ;try simp only[go_sem,f12,f13,f16,f17,Io]
 exact WW (IntKind.i64.wrap (v3+1)) _ EJ ((Wk.forget (by simp[Le,AG,Av,get,Aa,Ac,Ad,D.ids,Ai,AO.ids,Ae,base,ZE])))
noncomputable def A2 (a0:Int) (a1:Int) (a2:Int):Option (Bool):=
 cond (decide (a1≤a0)) (some (decide (a0≤a2))) (some false)
theorem Bp (a0:Int) (a1:Int) (a2:Int) (r:Bool) (hr:A2 a0 a1 a2=some r):
   Aj Tryz.prog 40 [.p (.int .i64 a0),.p (.int .i64 a1),.p (.int .i64 a2)] [] fun h d=>h=[]∧d= .p (.bool r):=by
 refine Ak Tryz.func40 rfl Xv (by simp[Tryz.f40]) ?_;unfold A2 at hr;cases c1:decide (a1≤a0)
 · simp only[c1,cond_false] at hr;obtain rfl:=Option.some.inj hr;try simp only[go_sem,c1]
   all_goals (try refine Ah ?_)
   all_goals (try simp only[go_sem,c1])
   all_goals (try (first | rfl | exact ⟨rfl,rfl⟩ | (simp;done)))
 simp only[c1,cond_true] at hr;obtain rfl:=Option.some.inj hr;try simp only[go_sem,c1]
 all_goals (try refine Ah ?_)
 all_goals (try simp only[go_sem,c1])
 all_goals (try (first | rfl | exact ⟨rfl,rfl⟩ | (simp;done)))
noncomputable def Ci (a0:Ao1):Option (Bool):=
 Option.bind (A2 a0.cq 1 8) fun x1=>cond x1 (Option.bind (A2 a0.ca 0 4) fun x4=>cond x4 (Option.bind (A2 a0.cd 0 3) fun x7=>cond x7 (Option.bind (A2 a0.cp 1 16) fun x10=>some x10) (some false)) (some false)) (some false)
theorem Jg (a0:Ao1) (r:Bool) (hr:Ci a0=some r):
   Aj Tryz.prog 41 [.agg [.p (.int .i64 a0.cq),.p (.int .i64 a0.ca),.p (.int .i64 a0.cd),.p (.int .i64 a0.cp)]] [] fun h d=>h=[]∧d= .p (.bool r):=by
 refine Ak Tryz.func41 rfl Xu (by simp[Tryz.f41]) ?_;unfold Ci at hr;obtain ⟨x1,g2,hr⟩:=bE hr;try simp only[go_sem]
 refine Au (Bp a0.cq 1 8 _ g2) ?_;rintro h' r ⟨rfl,rfl⟩;cases c3:x1
 · simp only[c3,cond_false] at hr;obtain rfl:=Option.some.inj hr;try simp only[go_sem,c3]
   all_goals (try refine Ah ?_)
   all_goals (try simp only[go_sem,c3])
   all_goals (try (first | rfl | exact ⟨rfl,rfl⟩ | (simp;done)))
 simp only[c3,cond_true] at hr;obtain ⟨x4,g5,hr⟩:=bE hr;try simp only[go_sem,c3]
 refine Au (Bp a0.ca 0 4 _ g5) ?_;rintro h' r ⟨rfl,rfl⟩;cases c6:x4
 · simp only[c6,cond_false] at hr;obtain rfl:=Option.some.inj hr;try simp only[go_sem,c3,c6]
   all_goals (try refine Ah ?_)
   all_goals (try simp only[go_sem,c3,c6])
   all_goals (try (first | rfl | exact ⟨rfl,rfl⟩ | (simp;done)))
 simp only[c6,cond_true] at hr;obtain ⟨x7,g8,hr⟩:=bE hr;try simp only[go_sem,c3,c6]
 refine Au (Bp a0.cd 0 3 _ g8) ?_;rintro h' r ⟨rfl,rfl⟩;cases c9:x7
 · simp only[c9,cond_false] at hr;obtain rfl:=Option.some.inj hr;try simp only[go_sem,c6,c9]
   all_goals (try refine Ah ?_)
   all_goals (try simp only[go_sem,c6,c9])
   all_goals (try (first | rfl | exact ⟨rfl,rfl⟩ | (simp;done)))
 simp only[c9,cond_true] at hr;obtain ⟨x10,g11,hr⟩:=bE hr;try simp only[go_sem,c6,c9]
 refine Au (Bp a0.cp 1 16 _ g11) ?_;rintro h' r ⟨rfl,rfl⟩;obtain rfl:=Option.some.inj hr;try simp only[go_sem,c9]
 all_goals (try refine Ah ?_)
 all_goals (try simp only[go_sem,c9])
 all_goals (try (first | rfl | exact ⟨rfl,rfl⟩ | (simp;done)))
noncomputable def D1 (a0:List Int) (a1:Int) (a2:Int):Int×Int→Option ((Int×Int)⊕((Int×Int)⊕Bool))
 | (v3,v4)=>cond (decide (v3<((a0.length:Nat):Int))) (Option.bind (A0 a0 v3) fun BM=>cond (decide (BM≤v4)) (some (Sum.inr (.inr ((false:Bool))))) (cond (decide (a2≤BM)) (some (Sum.inr (.inr ((false:Bool))))) (cond (decide (BM=a1)) (some (Sum.inr (.inr ((false:Bool))))) (some (Sum.inl ((IntKind.i64.wrap (v3+1)),BM)))))) (some (Sum.inr (.inl (v3,v4))))
theorem Dh (a0:List Int) (a1:Int) (a2:Int) (v3:Int) (v4:Int):D1 a0 a1 a2 (v3,v4)=cond (decide (v3<((a0.length:Nat):Int))) (Option.bind (A0 a0 v3) fun BM=>cond (decide (BM≤v4)) (some (Sum.inr (.inr ((false:Bool))))) (cond (decide (a2≤BM)) (some (Sum.inr (.inr ((false:Bool))))) (cond (decide (BM=a1)) (some (Sum.inr (.inr ((false:Bool))))) (some (Sum.inl ((IntKind.i64.wrap (v3+1)),BM)))))) (some (Sum.inr (.inl (v3,v4)))):=rfl
noncomputable def Cb (a0:List Int) (a1:Int) (a2:Int):Option (Bool):=
 Option.bind (AS (D1 a0 a1 a2) (0,(-1))) (fun | .inl (v18,j5)=>some (decide (((a0.length:Nat):Int)≤4)) | .inr (r20)=>some r20)
theorem Ky (a0:List Int) (a1:Int) (a2:Int) (r:Bool) (hr:Cb a0 a1 a2=some r):
   Aj Tryz.prog 43 [.p (.sl (Ag a0)),.p (.int .i64 a1),.p (.int .i64 a2)] [] fun h d=>h=[]∧d= .p (.bool r):=by
 refine Ak Tryz.func43 rfl Aj6 (by simp[Tryz.f43]) ?_;unfold Cb at hr;obtain ⟨e8,g9,hr⟩:=bE hr;try simp only[go_sem]
 refine Bl g9 (fun q:Int×Int=>⟨[(0,.p (.sl (Ag a0))),(1,.p (.int .i64 a1)),(2,.p (.int .i64 a2)),(7,.p (.int .i64 q.2)),(10,.p (.sl (Ag a0))),(11,.p (.int .i64 ((a0.length:Nat):Int))),(12,.p (.int .i64 q.1))],[],34⟩) ((Wk.forget (by simp[Le,AG,Av,get,Aa,Ac,Ad,D.ids,Ai,AO.ids,Ae,base,ZE]))) ?_;rintro ⟨v3,v4⟩ m7 GB ih6;rw[Dh] at GB;cases Iq:decide (v3<((a0.length:Nat):Int))
 · simp only[Iq,cond_false] at GB;simp only[Option.bind_some,Ar] at GB;obtain rfl:=Option.some.inj GB;try dsimp only at hr
   obtain rfl:=Option.some.inj hr;try simp only[go_sem,Iq]
   all_goals (try refine Ah ?_)
   all_goals (try simp only[go_sem,Iq])
   all_goals (try (first | rfl | exact ⟨rfl,rfl⟩ | (simp;done)))
 simp only[Iq,cond_true] at GB;obtain ⟨BM,g12,GB⟩:=bK GB;have f13:=AA g12;have f14:(Ag a0).getD (Int.toNat v3) []=[(.int .i64 BM)]:=AB _ g12;cases H4:decide (BM≤v4)
 · simp only[H4,cond_false] at GB;cases Ip:decide (a2≤BM)
   · simp only[Ip,cond_false] at GB;cases Na:decide (BM=a1)
     · simp only[Na,cond_false] at GB;simp only[Option.bind_some,At] at GB;try simp only[go_sem,Iq,f13,f14,H4,Ip,Na]
       exact ih6 ((IntKind.i64.wrap (v3+1)),BM) _ GB ((Wk.forget (by simp[Le,AG,Av,get,Aa,Ac,Ad,D.ids,Ai,AO.ids,Ae,base,ZE])))
     simp only[Na,cond_true] at GB;simp only[Option.bind_some,Ar] at GB;obtain rfl:=Option.some.inj GB;try dsimp only at hr
     obtain rfl:=Option.some.inj hr;try simp only[go_sem,Iq,f13,f14,H4,Ip,Na]
     all_goals (try refine Ah ?_)
     all_goals (try simp only[go_sem,Iq,f13,f14,H4,Ip,Na])
     all_goals (try (first | rfl | exact ⟨rfl,rfl⟩ | (simp;done)))
   simp only[Ip,cond_true] at GB;simp only[Option.bind_some,Ar] at GB;obtain rfl:=Option.some.inj GB;try dsimp only at hr
   obtain rfl:=Option.some.inj hr;try simp only[go_sem,Iq,f13,f14,H4,Ip]
   all_goals (try refine Ah ?_)
   all_goals (try simp only[go_sem,Iq,f13,f14,H4,Ip])
   all_goals (try (first | rfl | exact ⟨rfl,rfl⟩ | (simp;done)))
 simp only[H4,cond_true] at GB;simp only[Option.bind_some,Ar] at GB;obtain rfl:=Option.some.inj GB;try dsimp only at hr
 obtain rfl:=Option.some.inj hr;try simp only[go_sem,Iq,f13,f14,H4]
 all_goals (try refine Ah ?_)
 all_goals (try simp only[go_sem,Iq,f13,f14,H4])
 all_goals (try (first | rfl | exact ⟨rfl,rfl⟩ | (simp;done)))
noncomputable def Ek (a0:Nt):(List (Int×Bool))×Int→Option (((List (Int×Bool))×Int)⊕(((List (Int×Bool))×Int)))
 | (v37,Wg)=>cond (decide (Wg<((a0.Al.length:Nat):Int))) (Option.bind (A0 a0.Al Wg) fun x45=>some (Sum.inl ((Ik v37 x45),(IntKind.i64.wrap (Wg+1))))) (some (Sum.inr (v37,Wg)))
theorem Ev (a0:Nt) (v37:List (Int×Bool)) (Wg:Int):Ek a0 (v37,Wg)=cond (decide (Wg<((a0.Al.length:Nat):Int))) (Option.bind (A0 a0.Al Wg) fun x45=>some (Sum.inl ((Ik v37 x45),(IntKind.i64.wrap (Wg+1))))) (some (Sum.inr (v37,Wg))):=rfl
noncomputable def Dq (a0:Nt):(List (Int×Bool))×Bool×Int→Option (((List (Int×Bool))×Bool×Int)⊕(((List (Int×Bool))×Bool×Int)))
 | (v54,v55,Wf)=>cond (decide (Wf<((a0.Al.length:Nat):Int))) (Option.bind (A0 a0.Al Wf) fun G1=>cond v55 (some (Sum.inl ((Ik v54 G1),((GD v54 G1).getD false),(IntKind.i64.wrap (Wf+1))))) (some (Sum.inl ((Ik v54 G1),false,(IntKind.i64.wrap (Wf+1)))))) (some (Sum.inr (v54,v55,Wf)))
theorem Eu (a0:Nt) (v54:List (Int×Bool)) (v55:Bool) (Wf:Int):Dq a0 (v54,v55,Wf)=cond (decide (Wf<((a0.Al.length:Nat):Int))) (Option.bind (A0 a0.Al Wf) fun G1=>cond v55 (some (Sum.inl ((Ik v54 G1),((GD v54 G1).getD false),(IntKind.i64.wrap (Wf+1))))) (some (Sum.inl ((Ik v54 G1),false,(IntKind.i64.wrap (Wf+1)))))) (some (Sum.inr (v54,v55,Wf))):=rfl
noncomputable def Dp (GN:BY):(List (Int×Bool))×Int×Int→Option (((List (Int×Bool))×Int×Int)⊕(((List (Int×Bool))×Int×Int)))
 | (v91,j4,v93)=>cond (decide (j4<GN.AH)) (cond GN.A1 (some (Sum.inl ((Nv v91 v93 true),(IntKind.i64.wrap (j4+1)),(IntKind.i64.wrap (v93+1))))) (some (Sum.inl (v91,(IntKind.i64.wrap (j4+1)),(IntKind.i64.wrap (v93+1)))))) (some (Sum.inr (v91,j4,v93)))
theorem Et (GN:BY) (v91:List (Int×Bool)) (j4:Int) (v93:Int):Dp GN (v91,j4,v93)=cond (decide (j4<GN.AH)) (cond GN.A1 (some (Sum.inl ((Nv v91 v93 true),(IntKind.i64.wrap (j4+1)),(IntKind.i64.wrap (v93+1))))) (some (Sum.inl (v91,(IntKind.i64.wrap (j4+1)),(IntKind.i64.wrap (v93+1)))))) (some (Sum.inr (v91,j4,v93))):=rfl
noncomputable def Ej (a0:Nt):(List (List UInt8×Int))×(List (Int×Bool))×Int×Int→Option (((List (List UInt8×Int))×(List (Int×Bool))×Int×Int)⊕(((List (List UInt8×Int))×(List (Int×Bool))×Int×Int)⊕Bool))
 | (v24,J4,v26,LN)=>cond (decide (LN<((a0.spurs.length:Nat):Int))) (Option.bind (A0 a0.spurs LN) fun GN=>Option.bind (Jz GN.name) fun x75=>cond x75 (Option.bind (A2 GN.Ft 0 (IntKind.i64.wrap (((a0.blocks.length:Nat):Int) - 1))) fun Z7=>cond Z7 (Option.bind (A2 GN.out 0 (IntKind.i64.wrap (((a0.blocks.length:Nat):Int) - 1))) fun x81=>cond x81 (Option.bind (A2 GN.AH 1 4) fun x84=>cond x84 (cond (decide (GN.base=v26)) (Option.bind (AS (Dp GN) (J4,0,v26)) (fun (Apc,Avf,Apb)=>some (Sum.inl ((FD v24 GN.name (IntKind.i64.wrap (((Cz v24 GN.name).getD 0)+1))),Apc,Apb,(IntKind.i64.wrap (LN+1)))))) (some (Sum.inr (.inr ((false:Bool)))))) (some (Sum.inr (.inr ((false:Bool)))))) (some (Sum.inr (.inr ((false:Bool)))))) (some (Sum.inr (.inr ((false:Bool)))))) (some (Sum.inr (.inr ((false:Bool)))))) (some (Sum.inr (.inl (v24,J4,v26,LN))))
theorem Es (a0:Nt) (v24:List (List UInt8×Int)) (J4:List (Int×Bool)) (v26:Int) (LN:Int):Ej a0 (v24,J4,v26,LN)=cond (decide (LN<((a0.spurs.length:Nat):Int))) (Option.bind (A0 a0.spurs LN) fun GN=>Option.bind (Jz GN.name) fun x75=>cond x75 (Option.bind (A2 GN.Ft 0 (IntKind.i64.wrap (((a0.blocks.length:Nat):Int) - 1))) fun Z7=>cond Z7 (Option.bind (A2 GN.out 0 (IntKind.i64.wrap (((a0.blocks.length:Nat):Int) - 1))) fun x81=>cond x81 (Option.bind (A2 GN.AH 1 4) fun x84=>cond x84 (cond (decide (GN.base=v26)) (Option.bind (AS (Dp GN) (J4,0,v26)) (fun (Apc,Avf,Apb)=>some (Sum.inl ((FD v24 GN.name (IntKind.i64.wrap (((Cz v24 GN.name).getD 0)+1))),Apc,Apb,(IntKind.i64.wrap (LN+1)))))) (some (Sum.inr (.inr ((false:Bool)))))) (some (Sum.inr (.inr ((false:Bool)))))) (some (Sum.inr (.inr ((false:Bool)))))) (some (Sum.inr (.inr ((false:Bool)))))) (some (Sum.inr (.inr ((false:Bool)))))) (some (Sum.inr (.inl (v24,J4,v26,LN)))):=rfl
noncomputable def Ei (a0:Nt):(List (List UInt8×Int))×Int→Option (((List (List UInt8×Int))×Int)⊕(((List (List UInt8×Int))×Int)⊕Bool))
 | (v12,FT)=>cond (decide (FT<((a0.blocks.length:Nat):Int))) (Option.bind (A0 a0.blocks FT) fun Ir=>Option.bind (Jz Ir.name) fun Af1=>cond Af1 (Option.bind (A2 Ir.x (-9999) 9999) fun Yy=>cond Yy (Option.bind (A2 Ir.y (-9999) 9999) fun Af0=>cond Af0 (Option.bind (A0 a0.next FT) fun u5=>Option.bind (Cb u5 FT ((a0.blocks.length:Nat):Int)) fun Aez=>cond Aez (some (Sum.inl ((FD v12 Ir.name (IntKind.i64.wrap (((Cz v12 Ir.name).getD 0)+1))),(IntKind.i64.wrap (FT+1))))) (some (Sum.inr (.inr ((false:Bool)))))) (some (Sum.inr (.inr ((false:Bool)))))) (some (Sum.inr (.inr ((false:Bool)))))) (some (Sum.inr (.inr ((false:Bool)))))) (some (Sum.inr (.inl (v12,FT))))
theorem Er (a0:Nt) (v12:List (List UInt8×Int)) (FT:Int):Ei a0 (v12,FT)=cond (decide (FT<((a0.blocks.length:Nat):Int))) (Option.bind (A0 a0.blocks FT) fun Ir=>Option.bind (Jz Ir.name) fun Af1=>cond Af1 (Option.bind (A2 Ir.x (-9999) 9999) fun Yy=>cond Yy (Option.bind (A2 Ir.y (-9999) 9999) fun Af0=>cond Af0 (Option.bind (A0 a0.next FT) fun u5=>Option.bind (Cb u5 FT ((a0.blocks.length:Nat):Int)) fun Aez=>cond Aez (some (Sum.inl ((FD v12 Ir.name (IntKind.i64.wrap (((Cz v12 Ir.name).getD 0)+1))),(IntKind.i64.wrap (FT+1))))) (some (Sum.inr (.inr ((false:Bool)))))) (some (Sum.inr (.inr ((false:Bool)))))) (some (Sum.inr (.inr ((false:Bool)))))) (some (Sum.inr (.inr ((false:Bool)))))) (some (Sum.inr (.inl (v12,FT)))):=rfl
noncomputable def C3 (a0:Nt):Option (Bool):=
 Option.bind (A2 ((a0.blocks.length:Nat):Int) 1 24) fun x1=>cond x1 (cond (decide (((a0.next.length:Nat):Int)=((a0.blocks.length:Nat):Int))) (cond (decide (6<((a0.spurs.length:Nat):Int))) (some false) (cond (decide (8<((a0.Al.length:Nat):Int))) (some false) (Option.bind (Ci (⟨a0.cq,a0.ca,a0.cd,a0.cp⟩:Ao1)) fun x7=>cond x7 (Option.bind (AS (Ei a0) ([],0)) (fun | .inl (Avc,v167)=>Option.bind (AS (Ej a0) (Avc,[],((a0.blocks.length:Nat):Int),0)) (fun | .inl (Ap5,Alb,v254,v255)=>cond (decide (0<((Alb.length:Nat):Int))) (Option.bind (AS (Dq a0) (Alb,decide (((Ap5.length:Nat):Int)=(IntKind.i64.wrap (((a0.blocks.length:Nat):Int)+((a0.spurs.length:Nat):Int)))),0)) (fun (v290,Avb,v292)=>some Avb)) (Option.bind (AS (Ek a0) (Alb,0)) (fun (v271,v272)=>some false)) | .inr (Aw2)=>some Aw2) | .inr (Aw1)=>some Aw1)) (some false)))) (some false)) (some false)
theorem IA (a0:Nt) (r:Bool) (hr:C3 a0=some r):
   Aj Tryz.prog 19 [.agg [.p (.sl (Bi a0.blocks)),.p (.sl (AM a0.next)),.p (.sl (Bh a0.spurs)),.p (.sl (Ag a0.Al)),.p (.int .i64 a0.cq),.p (.int .i64 a0.ca),.p (.int .i64 a0.cd),.p (.int .i64 a0.cp)]] [] fun h d=>h=[]∧d= .p (.bool r):=by
 refine Ak Tryz.func19 rfl Ajk (by simp[Tryz.f19]) ?_;unfold C3 at hr;obtain ⟨x1,g2,hr⟩:=bE hr;try simp only[go_sem]
 refine Au (Bp ((a0.blocks.length:Nat):Int) 1 24 _ g2) ?_;rintro h' r ⟨rfl,rfl⟩;cases c3:x1
 · simp only[c3,cond_false] at hr;obtain rfl:=Option.some.inj hr;try simp only[go_sem,c3]
   all_goals (try refine Ah ?_)
   all_goals (try simp only[go_sem,c3])
   all_goals (try (first | rfl | exact ⟨rfl,rfl⟩ | (simp;done)))
 simp only[c3,cond_true] at hr;cases c4:decide (((a0.next.length:Nat):Int)=((a0.blocks.length:Nat):Int))
 · simp only[c4,cond_false] at hr;obtain rfl:=Option.some.inj hr;try simp only[go_sem,c3,c4]
   all_goals (try refine Ah ?_)
   all_goals (try simp only[go_sem,c3,c4])
   all_goals (try (first | rfl | exact ⟨rfl,rfl⟩ | (simp;done)))
 simp only[c4,cond_true] at hr;cases c5:decide (6<((a0.spurs.length:Nat):Int))
 · simp only[c5,cond_false] at hr;cases c6:decide (8<((a0.Al.length:Nat):Int))
   · simp only[c6,cond_false] at hr;obtain ⟨x7,g8,hr⟩:=bE hr;try simp only[go_sem,c3,c4,c5,c6]
     refine Au (Jg (⟨a0.cq,a0.ca,a0.cd,a0.cp⟩:Ao1) _ g8) ?_;rintro h' r ⟨rfl,rfl⟩;cases c9:x7
     · simp only[c9,cond_false] at hr;obtain rfl:=Option.some.inj hr;try simp only[go_sem,c6,c9]
       all_goals (try refine Ah ?_)
       all_goals (try simp only[go_sem,c6,c9])
       all_goals (try (first | rfl | exact ⟨rfl,rfl⟩ | (simp;done)))
     simp only[c9,cond_true] at hr;obtain ⟨e17,g18,hr⟩:=bE hr;try simp only[go_sem,c6,c9]
     refine Bl g18 (fun q:(List (List UInt8×Int))×Int=>⟨[(1,.ptr 1 0),(3,.mv 45),(47,.p (.sl (Bi a0.blocks))),(48,.p (.int .i64 ((a0.blocks.length:Nat):Int))),(49,.p (.int .i64 q.2))],[(1,.box [.p (.sl (Bi a0.blocks)),.p (.sl (AM a0.next)),.p (.sl (Bh a0.spurs)),.p (.sl (Ag a0.Al)),.p (.int .i64 a0.cq),.p (.int .i64 a0.ca),.p (.int .i64 a0.cd),.p (.int .i64 a0.cp)]),(45,.mp (Il q.1))],185⟩) ((Wk.forget (by simp[Le,AG,Av,get,Aa,Ac,Ad,D.ids,Ai,AO.ids,Ae,base,ZE,c3,c9]))) ?_;rintro ⟨v12,FT⟩ m16 CF Aq1;rw[Er] at CF;cases M9:decide (FT<((a0.blocks.length:Nat):Int))
     · simp only[M9,cond_false] at CF;simp only[Option.bind_some,Ar] at CF;obtain rfl:=Option.some.inj CF;try dsimp only at hr
       obtain ⟨e31,g32,hr⟩:=bE hr;try simp only[go_sem,M9]
       refine Bl g32 (fun q:(List (List UInt8×Int))×(List (Int×Bool))×Int×Int=>⟨[(1,.ptr 1 0),(3,.mv 45),(6,.p (.int .i64 q.2.2.1)),(7,.mv 92),(94,.p (.sl (Bh a0.spurs))),(95,.p (.int .i64 ((a0.spurs.length:Nat):Int))),(96,.p (.int .i64 q.2.2.2))],[(1,.box [.p (.sl (Bi a0.blocks)),.p (.sl (AM a0.next)),.p (.sl (Bh a0.spurs)),.p (.sl (Ag a0.Al)),.p (.int .i64 a0.cq),.p (.int .i64 a0.ca),.p (.int .i64 a0.cd),.p (.int .i64 a0.cp)]),(45,.mp (Il q.1)),(92,.mp (U0 q.2.1))],185⟩) ((Wk.forget (by simp[Le,AG,Av,get,Aa,Ac,Ad,D.ids,Ai,AO.ids,Ae,base,ZE,c3,c9]))) ?_;rintro ⟨v24,J4,v26,LN⟩ m30 BN Amd;rw[Es] at BN;cases c33:decide (LN<((a0.spurs.length:Nat):Int))
       · simp only[c33,cond_false] at BN;simp only[Option.bind_some,Ar] at BN;obtain rfl:=Option.some.inj BN;try dsimp only at hr
         try simp only[go_sem,c33]
         refine UB rfl rfl rfl rfl Agg rfl rfl ?_;cases c34:decide (0<((J4.length:Nat):Int))
         · simp only[c34,cond_false] at hr;obtain ⟨e42,g43,hr⟩:=bE hr;try simp only[go_sem,c34]
           refine Bl g43 (fun q:(List (Int×Bool))×Int=>⟨[(7,.mv 92),(10,.p (.bool false)),(169,.p (.sl (Ag a0.Al))),(170,.p (.int .i64 ((a0.Al.length:Nat):Int))),(171,.p (.int .i64 q.2))],[(92,.mp (U0 q.1))],185⟩) ((Wk.forget (by simp[Le,AG,Av,get,Aa,Ac,Ad,D.ids,Ai,AO.ids,Ae,base,ZE,c3,c9]))) ?_;rintro ⟨v37,Wg⟩ m41 Vk Aw7;rw[Ev] at Vk;cases c44:decide (Wg<((a0.Al.length:Nat):Int))
           · simp only[c44,cond_false] at Vk;simp only[Option.bind_some,Ar] at Vk;obtain rfl:=Option.some.inj Vk;try dsimp only at hr
             obtain rfl:=Option.some.inj hr;try simp only[go_sem,c44]
             all_goals (try refine Ah ?_)
             all_goals (try simp only[go_sem,c44])
             all_goals (try (first | rfl | exact ⟨rfl,rfl⟩ | (simp;done)))
           simp only[c44,cond_true] at Vk;obtain ⟨x45,g46,Vk⟩:=bK Vk;have f47:=AA g46;have f48:(Ag a0.Al).getD (Int.toNat Wg) []=[(.int .i64 x45)]:=AB _ g46;try simp only[go_sem,c44,f47,f48]
           refine Ps rfl rfl rfl rfl Agg rfl rfl rfl rfl (Re _ _) ?_;simp only[Option.bind_some,At] at Vk;try simp only[go_sem]
           exact Aw7 ((Ik v37 x45),(IntKind.i64.wrap (Wg+1))) _ Vk ((Wk.forget (by simp[Le,AG,Av,get,Aa,Ac,Ad,D.ids,Ai,AO.ids,Ae,base,ZE,c3,c9])))
         simp only[c34,cond_true] at hr;try simp only[go_sem,c34]
         refine UB rfl rfl rfl rfl Asi rfl rfl ?_;obtain ⟨e60,g61,hr⟩:=bE hr;try simp only[go_sem,c34]
         refine Bl g61 (fun q:(List (Int×Bool))×Bool×Int=>⟨[(7,.mv 92),(10,.p (.bool q.2.1)),(169,.p (.sl (Ag a0.Al))),(170,.p (.int .i64 ((a0.Al.length:Nat):Int))),(171,.p (.int .i64 q.2.2))],[(92,.mp (U0 q.1))],185⟩) ((Wk.forget (by simp[Le,AG,Av,get,Aa,Ac,Ad,D.ids,Ai,AO.ids,Ae,base,ZE,c3,c9]))) ?_;rintro ⟨v54,v55,Wf⟩ m59 O2 Asm;rw[Eu] at O2;cases c62:decide (Wf<((a0.Al.length:Nat):Int))
         · simp only[c62,cond_false] at O2;simp only[Option.bind_some,Ar] at O2;obtain rfl:=Option.some.inj O2;try dsimp only at hr
           obtain rfl:=Option.some.inj hr;try simp only[go_sem,c62]
           all_goals (try refine Ah ?_)
           all_goals (try simp only[go_sem,c62])
           all_goals (try (first | rfl | exact ⟨rfl,rfl⟩ | (simp;done)))
         simp only[c62,cond_true] at O2;obtain ⟨G1,g64,O2⟩:=bK O2;have f65:=AA g64;have f66:(Ag a0.Al).getD (Int.toNat Wf) []=[(.int .i64 G1)]:=AB _ g64;cases c67:v55
         · simp only[c67,cond_false] at O2;try simp only[go_sem,c62,f65,f66,c67]
           refine Ps rfl rfl rfl rfl Agg rfl rfl rfl rfl (Re _ _) ?_;simp only[Option.bind_some,At] at O2;try simp only[go_sem]
           exact Asm ((Ik v54 G1),false,(IntKind.i64.wrap (Wf+1))) _ O2 ((Wk.forget (by simp[Le,AG,Av,get,Aa,Ac,Ad,D.ids,Ai,AO.ids,Ae,base,ZE,c3,c9,c67])))
         simp only[c67,cond_true] at O2;try simp only[go_sem,c62,f65,f66,c67]
         refine Ps rfl rfl rfl rfl Agg rfl rfl rfl rfl (Re _ _) ?_;simp only[Option.bind_some,At] at O2;try simp only[go_sem]
         exact Asm ((Ik v54 G1),((GD v54 G1).getD false),(IntKind.i64.wrap (Wf+1))) _ O2 ((Wk.forget (by simp[Le,AG,Av,get,Aa,Ac,Ad,D.ids,Ai,AO.ids,Ae,base,ZE,c3,c9,c67])))
       simp only[c33,cond_true] at BN;obtain ⟨GN,g72,BN⟩:=bK BN;have f73:=AA g72;have f74:(Bh a0.spurs).getD (Int.toNat LN) []=[(.str GN.name),(.bool GN.A1),(.int .i64 GN.Ft),(.int .i64 GN.out),(.int .i64 GN.AH),(.int .i64 GN.base)]:=AB _ g72;obtain ⟨x75,g76,BN⟩:=bK BN;try simp only[go_sem,c33,f73,f74]
       refine Au (T5 GN.name _ g76) ?_;rintro h' r ⟨rfl,rfl⟩;cases c77:x75
       · simp only[c77,cond_false] at BN;simp only[Option.bind_some,Ar] at BN;obtain rfl:=Option.some.inj BN;try dsimp only at hr
         obtain rfl:=Option.some.inj hr;try simp only[go_sem,c77]
         all_goals (try refine Ah ?_)
         all_goals (try simp only[go_sem,c77])
         all_goals (try (first | rfl | exact ⟨rfl,rfl⟩ | (simp;done)))
       simp only[c77,cond_true] at BN;obtain ⟨Z7,g79,BN⟩:=bK BN;try simp only[go_sem,c77]
       refine Au (Bp GN.Ft 0 (IntKind.i64.wrap (((a0.blocks.length:Nat):Int) - 1)) _ g79) ?_;rintro h' r ⟨rfl,rfl⟩;cases c80:Z7
       · simp only[c80,cond_false] at BN;simp only[Option.bind_some,Ar] at BN;obtain rfl:=Option.some.inj BN;try dsimp only at hr
         obtain rfl:=Option.some.inj hr;try simp only[go_sem,c77,c80]
         all_goals (try refine Ah ?_)
         all_goals (try simp only[go_sem,c77,c80])
         all_goals (try (first | rfl | exact ⟨rfl,rfl⟩ | (simp;done)))
       simp only[c80,cond_true] at BN;obtain ⟨x81,g82,BN⟩:=bK BN;try simp only[go_sem,c77,c80]
       refine Au (Bp GN.out 0 (IntKind.i64.wrap (((a0.blocks.length:Nat):Int) - 1)) _ g82) ?_;rintro h' r ⟨rfl,rfl⟩;cases Uv:x81
       · simp only[Uv,cond_false] at BN;simp only[Option.bind_some,Ar] at BN;obtain rfl:=Option.some.inj BN;try dsimp only at hr
         obtain rfl:=Option.some.inj hr;try simp only[go_sem,c80,Uv]
         all_goals (try refine Ah ?_)
         all_goals (try simp only[go_sem,c80,Uv])
         all_goals (try (first | rfl | exact ⟨rfl,rfl⟩ | (simp;done)))
       simp only[Uv,cond_true] at BN;obtain ⟨x84,g85,BN⟩:=bK BN;try simp only[go_sem,c80,Uv]
       refine Au (Bp GN.AH 1 4 _ g85) ?_;rintro h' r ⟨rfl,rfl⟩;cases c86:x84
       · simp only[c86,cond_false] at BN;simp only[Option.bind_some,Ar] at BN;obtain rfl:=Option.some.inj BN;try dsimp only at hr
         obtain rfl:=Option.some.inj hr;try simp only[go_sem,Uv,c86]
         all_goals (try refine Ah ?_)
         all_goals (try simp only[go_sem,Uv,c86])
         all_goals (try (first | rfl | exact ⟨rfl,rfl⟩ | (simp;done)))
       simp only[c86,cond_true] at BN;cases c87:decide (GN.base=v26)
       · simp only[c87,cond_false] at BN;simp only[Option.bind_some,Ar] at BN;obtain rfl:=Option.some.inj BN;try dsimp only at hr
         obtain rfl:=Option.some.inj hr;try simp only[go_sem,Uv,c86,c87]
         all_goals (try refine Ah ?_)
         all_goals (try simp only[go_sem,Uv,c86,c87])
         all_goals (try (first | rfl | exact ⟨rfl,rfl⟩ | (simp;done)))
       simp only[c87,cond_true] at BN;obtain ⟨e97,g98,BN⟩:=bK BN;try simp only[go_sem,Uv,c86,c87]
       refine Bl g98 (fun q:(List (Int×Bool))×Int×Int=>⟨[(1,.ptr 1 0),(3,.mv 45),(6,.p (.int .i64 q.2.2)),(7,.mv 92),(9,.ptr 9 0),(94,.p (.sl (Bh a0.spurs))),(95,.p (.int .i64 ((a0.spurs.length:Nat):Int))),(96,.p (.int .i64 LN)),(142,.p (.int .i64 GN.AH)),(143,.p (.int .i64 q.2.1))],[(1,.box [.p (.sl (Bi a0.blocks)),.p (.sl (AM a0.next)),.p (.sl (Bh a0.spurs)),.p (.sl (Ag a0.Al)),.p (.int .i64 a0.cq),.p (.int .i64 a0.ca),.p (.int .i64 a0.cd),.p (.int .i64 a0.cp)]),(9,.box [.p (.str GN.name),.p (.bool GN.A1),.p (.int .i64 GN.Ft),.p (.int .i64 GN.out),.p (.int .i64 GN.AH),.p (.int .i64 GN.base)]),(45,.mp (Il (FD v24 GN.name (IntKind.i64.wrap (((Cz v24 GN.name).getD 0)+1))))),(92,.mp (U0 q.1))],185⟩) ((Wk.forget (by simp[Le,AG,Av,get,Aa,Ac,Ad,D.ids,Ai,AO.ids,Ae,base,ZE,c3,c9,c77,c80,Uv,c86]))) ?_;rintro ⟨v91,j4,v93⟩ m96 RG Asl;rw[Et] at RG;cases c99:decide (j4<GN.AH)
       · simp only[c99,cond_false] at RG;simp only[Option.bind_some,Ar] at RG;obtain rfl:=Option.some.inj RG;try dsimp only at BN
         simp only[Option.bind_some,At] at BN;try simp only[go_sem,c99]
         exact Amd ((FD v24 GN.name (IntKind.i64.wrap (((Cz v24 GN.name).getD 0)+1))),v91,v93,(IntKind.i64.wrap (LN+1))) _ BN ((Wk.forget (by simp[Le,AG,Av,get,Aa,Ac,Ad,D.ids,Ai,AO.ids,Ae,base,ZE,c3,c9,c77,c80,Uv,c86])))
       simp only[c99,cond_true] at RG;cases Aeg:GN.A1
       · simp only[Aeg,cond_false] at RG;simp only[Option.bind_some,At] at RG;try simp only[go_sem,c99,Aeg]
         exact Asl (v91,(IntKind.i64.wrap (j4+1)),(IntKind.i64.wrap (v93+1))) _ RG ((Wk.forget (by simp[Le,AG,Av,get,Aa,Ac,Ad,D.ids,Ai,AO.ids,Ae,base,ZE,c3,c9,c77,c80,Uv,c86,Aeg])))
       simp only[Aeg,cond_true] at RG;simp only[Option.bind_some,At] at RG;try simp only[go_sem,c99,Aeg]
       exact Asl ((Nv v91 v93 true),(IntKind.i64.wrap (j4+1)),(IntKind.i64.wrap (v93+1))) _ RG ((Wk.forget (by simp[Le,AG,Av,get,Aa,Ac,Ad,D.ids,Ai,AO.ids,Ae,base,ZE,c3,c9,c77,c80,Uv,c86,Aeg])))
     simp only[M9,cond_true] at CF;obtain ⟨Ir,Au5,CF⟩:=bK CF;have f148:=AA Au5;have f149:(Bi a0.blocks).getD (Int.toNat FT) []=[(.str Ir.name),(.int .i64 Ir.x),(.int .i64 Ir.y)]:=AB _ Au5;try simp only[go_sem,M9,f148,f149]
     refine AY mixed (p:=[(0,0),(1,0),(2,2),(3,0),(4,0),(5,0),(6,0),(7,2),(8,0),(9,0),(10,0),(11,0),(12,0),(13,2),(14,0),(15,0),(16,0),(17,0),(18,0),(19,0),(20,0),(21,0),(22,0),(23,0),(24,0),(25,0),(26,2),(27,0),(28,0)]) (by kernel_rfl) (by simp[Av,get]) ?_;obtain ⟨Af1,Axo,CF⟩:=bK CF;try simp only[go_sem]
     refine Bu (T5 Ir.name _ Axo) ?_;rintro h' r ⟨rfl,rfl⟩;cases VH:Af1
     · simp only[VH,cond_false] at CF;simp only[Option.bind_some,Ar] at CF;obtain rfl:=Option.some.inj CF;try dsimp only at hr
       obtain rfl:=Option.some.inj hr;try simp only[go_sem,VH]
       all_goals (try refine Ah ?_)
       all_goals (try simp only[go_sem,VH])
       all_goals (try (first | rfl | exact ⟨rfl,rfl⟩ | (simp;done)))
     simp only[VH,cond_true] at CF;obtain ⟨Yy,Amu,CF⟩:=bK CF;try simp only[go_sem,VH]
     refine Bu (Bp Ir.x (-9999) 9999 _ Amu) ?_;rintro h' r ⟨rfl,rfl⟩;cases VG:Yy
     · simp only[VG,cond_false] at CF;simp only[Option.bind_some,Ar] at CF;obtain rfl:=Option.some.inj CF;try dsimp only at hr
       obtain rfl:=Option.some.inj hr;try simp only[go_sem,VH,VG]
       all_goals (try refine Ah ?_)
       all_goals (try simp only[go_sem,VH,VG])
       all_goals (try (first | rfl | exact ⟨rfl,rfl⟩ | (simp;done)))
     simp only[VG,cond_true] at CF;obtain ⟨Af0,Axn,CF⟩:=bK CF;try simp only[go_sem,VH,VG]
     refine Bu (Bp Ir.y (-9999) 9999 _ Axn) ?_;rintro h' r ⟨rfl,rfl⟩;cases VF:Af0
     · simp only[VF,cond_false] at CF;simp only[Option.bind_some,Ar] at CF;obtain rfl:=Option.some.inj CF;try dsimp only at hr
       obtain rfl:=Option.some.inj hr;try simp only[go_sem,VG,VF]
       all_goals (try refine Ah ?_)
       all_goals (try simp only[go_sem,VG,VF])
       all_goals (try (first | rfl | exact ⟨rfl,rfl⟩ | (simp;done)))
     simp only[VF,cond_true] at CF;obtain ⟨u5,Au3,CF⟩:=bK CF;have f161:=AA Au3;have f162:(AM a0.next).getD (Int.toNat FT) []=[(.sl (Ag u5))]:=AB _ Au3;obtain ⟨Aez,Axm,CF⟩:=bK CF;try simp only[go_sem,VG,VF,f161,f162]
     refine Bu (Ky u5 FT ((a0.blocks.length:Nat):Int) _ Axm) ?_;rintro h' r ⟨rfl,rfl⟩;cases Aee:Aez
     · simp only[Aee,cond_false] at CF;simp only[Option.bind_some,Ar] at CF;obtain rfl:=Option.some.inj CF;try dsimp only at hr
       obtain rfl:=Option.some.inj hr;try simp only[go_sem,VF,Aee]
       all_goals (try refine Ah ?_)
       all_goals (try simp only[go_sem,VF,Aee])
       all_goals (try (first | rfl | exact ⟨rfl,rfl⟩ | (simp;done)))
     simp only[Aee,cond_true] at CF;simp only[Option.bind_some,At] at CF;try simp only[go_sem,VF,Aee]
     exact Aq1 ((FD v12 Ir.name (IntKind.i64.wrap (((Cz v12 Ir.name).getD 0)+1))),(IntKind.i64.wrap (FT+1))) _ CF ((Wk.forget (by simp[Le,AG,Av,get,Aa,Ac,Ad,D.ids,Ai,AO.ids,Ae,base,ZE,c3,c9,VH,VG,VF,Aee])))
   simp only[c6,cond_true] at hr;obtain rfl:=Option.some.inj hr;try simp only[go_sem,c3,c4,c5,c6]
   all_goals (try refine Ah ?_)
   all_goals (try simp only[go_sem,c3,c4,c5,c6])
   all_goals (try (first | rfl | exact ⟨rfl,rfl⟩ | (simp;done)))
 simp only[c5,cond_true] at hr;obtain rfl:=Option.some.inj hr;try simp only[go_sem,c3,c4,c5]
 all_goals (try refine Ah ?_)
 all_goals (try simp only[go_sem,c3,c4,c5])
 all_goals (try (first | rfl | exact ⟨rfl,rfl⟩ | (simp;done)))
noncomputable def AW (a0:Int) (a1:List (List UInt8)) (a2:List Int) (a3:List Dc):Option ((List Dc)):=
 cond (decide (a3.length+1<10000000)) (some (a3++[(⟨a0,(IntKind.i64.wrap (((a3.length:Nat):Int)+1)),a1,a2⟩:Dc)])) none
theorem BQ (a0:Int) (a1:List (List UInt8)) (a2:List Int) (a3:List Dc) (r:(List Dc)) (hr:AW a0 a1 a2 a3=some r):
   Aj Tryz.prog 88 [.p (.int .i64 a0),.p (.sl (AV a1)),.p (.sl (Ag a2)),.ptr 1000000 0] [(1000000,.box [.ref 1000001 0 a3.length a3.length]),(1000001,.arr 82 4 (BO a3))] fun h d=>h=[(1000000,.box [.ref 1000001 0 r.length r.length]),(1000001,.arr 82 4 (BO r))]∧d= .BA []:=by
 refine Ak Tryz.func88 rfl Aic (by simp[Tryz.f88]) ?_;unfold AW at hr;obtain ⟨c1,hr⟩:=gE hr;try simp only[go_sem]
 refine ⟨by have:=of_decide_eq_true c1;(try simp only[List.length_cons,List.length_nil,List.length_append] at*);(repeat' refine And.intro ?_ ?_)<;>first | exact Cf _ _ rfl | exact Ajt _ | omega | (simp[I1];done),?_⟩;obtain rfl:=Option.some.inj hr;try simp only[go_sem]
 all_goals (try refine Bc ?_)
 all_goals (try simp only[go_sem])
 all_goals (try (first | rfl | exact ⟨rfl,rfl⟩ | (simp;done)))
noncomputable def B6 (a0:BY) (a1:Int):Option (Bool×Int):=
 cond (decide (a0.base≤a1)) (some (decide (a1<(IntKind.i64.wrap (a0.base+a0.AH))),a1)) (some (false,a1))
theorem J0 (a0:BY) (a1:Int) (r:Bool×Int) (hr:B6 a0 a1=some r):
   Aj Tryz.prog 90 [.agg [.p (.str a0.name),.p (.bool a0.A1),.p (.int .i64 a0.Ft),.p (.int .i64 a0.out),.p (.int .i64 a0.AH),.p (.int .i64 a0.base)],.ptr 1000000 0] [(1000000,.box [.p (.int .i64 a1)])] fun h d=>h=[(1000000,.box [.p (.int .i64 r.2)])]∧d= .p (.bool r.1):=by
 refine Ak Tryz.func90 rfl Aib (by simp[Tryz.f90]) ?_;unfold B6 at hr;cases c1:decide (a0.base≤a1)
 · simp only[c1,cond_false] at hr;obtain rfl:=Option.some.inj hr;try simp only[go_sem,c1]
   all_goals (try refine Bc ?_)
   all_goals (try simp only[go_sem,c1])
   all_goals (try (first | rfl | exact ⟨rfl,rfl⟩ | (simp;done)))
 simp only[c1,cond_true] at hr;obtain rfl:=Option.some.inj hr;try simp only[go_sem,c1]
 all_goals (try refine Bc ?_)
 all_goals (try simp only[go_sem,c1])
 all_goals (try (first | rfl | exact ⟨rfl,rfl⟩ | (simp;done)))
noncomputable def D0 (a0:List BY):Int×Int→Option ((Int×Int)⊕((Int×Int)⊕(Int×Int)))
 | (v3,v4)=>cond (decide (v4<((a0.length:Nat):Int))) (Option.bind (A0 a0 v4) fun BM=>Option.bind (B6 (⟨BM.name,BM.A1,BM.Ft,BM.out,BM.AH,BM.base⟩:BY) v3) fun (x15,Nd)=>cond x15 (some (Sum.inr (.inr (((v4,Nd):Int×Int))))) (some (Sum.inl (Nd,(IntKind.i64.wrap (v4+1)))))) (some (Sum.inr (.inl (v3,v4))))
theorem De (a0:List BY) (v3:Int) (v4:Int):D0 a0 (v3,v4)=cond (decide (v4<((a0.length:Nat):Int))) (Option.bind (A0 a0 v4) fun BM=>Option.bind (B6 (⟨BM.name,BM.A1,BM.Ft,BM.out,BM.AH,BM.base⟩:BY) v3) fun (x15,Nd)=>cond x15 (some (Sum.inr (.inr (((v4,Nd):Int×Int))))) (some (Sum.inl (Nd,(IntKind.i64.wrap (v4+1)))))) (some (Sum.inr (.inl (v3,v4)))):=rfl
noncomputable def Ca (a0:List BY) (a1:Int):Option (Int×Int):=
 Option.bind (AS (D0 a0) (a1,0)) (fun | .inl (j5,v20)=>some ((-1),j5) | .inr (r21)=>some r21)
theorem Kg (a0:List BY) (a1:Int) (r:Int×Int) (hr:Ca a0 a1=some r):
   Aj Tryz.prog 89 [.p (.sl (Bh a0)),.fn 90 [.ptr 1000000 0]] [(1000000,.box [.p (.int .i64 a1)])] fun h d=>h=[(1000000,.box [.p (.int .i64 r.2)])]∧d= .p (.int .i64 r.1):=by
 refine Ak Tryz.func89 rfl Xn (by simp[Tryz.f89]) ?_;unfold Ca at hr;obtain ⟨e8,g9,hr⟩:=bE hr;try simp only[go_sem]
 refine Bl g9 (fun q:Int×Int=>⟨[(0,.p (.sl (Bh a0))),(1,.fn 90 [.ptr 1000000 0]),(7,.p (.int .i64 ((a0.length:Nat):Int))),(8,.p (.int .i64 q.2))],[(1000000,.box [.p (.int .i64 q.1)])],19⟩) ((Wk.forget (by simp[Le,AG,Av,get,Aa,Ac,Ad,D.ids,Ai,AO.ids,Ae,base,ZE]))) ?_;rintro ⟨v3,v4⟩ m7 GB ih6;rw[De] at GB;cases Iq:decide (v4<((a0.length:Nat):Int))
 · simp only[Iq,cond_false] at GB;simp only[Option.bind_some,Ar] at GB;obtain rfl:=Option.some.inj GB;try dsimp only at hr
   obtain rfl:=Option.some.inj hr;try simp only[go_sem,Iq]
   all_goals (try refine Bc ?_)
   all_goals (try simp only[go_sem,Iq])
   all_goals (try (first | rfl | exact ⟨rfl,rfl⟩ | (simp;done)))
 simp only[Iq,cond_true] at GB;obtain ⟨BM,g12,GB⟩:=bK GB;have f13:=AA g12;have f14:(Bh a0).getD (Int.toNat v4) []=[(.str BM.name),(.bool BM.A1),(.int .i64 BM.Ft),(.int .i64 BM.out),(.int .i64 BM.AH),(.int .i64 BM.base)]:=AB _ g12;obtain ⟨⟨x15,Nd⟩,g17,GB⟩:=bK GB;try simp only[go_sem,Iq,f13,f14]
 refine Au (J0 (⟨BM.name,BM.A1,BM.Ft,BM.out,BM.AH,BM.base⟩:BY) v3 _ g17) ?_;rintro h' r ⟨rfl,rfl⟩;cases Io:x15
 · simp only[Io,cond_false] at GB;simp only[Option.bind_some,At] at GB;try simp only[go_sem,Io]
   exact ih6 (Nd,(IntKind.i64.wrap (v4+1))) _ GB ((Wk.forget (by simp[Le,AG,Av,get,Aa,Ac,Ad,D.ids,Ai,AO.ids,Ae,base,ZE,Io])))
 simp only[Io,cond_true] at GB;simp only[Option.bind_some,Ar] at GB;obtain rfl:=Option.some.inj GB;try dsimp only at hr
 obtain rfl:=Option.some.inj hr;try simp only[go_sem,Io]
 all_goals (try refine Bc ?_)
 all_goals (try simp only[go_sem,Io])
 all_goals (try (first | rfl | exact ⟨rfl,rfl⟩ | (simp;done)))
noncomputable def GX (a0:Nt):(List Dc)×Int→Option (((List Dc)×Int)⊕(((List Dc)×Int)))
 | (YA,v37)=>cond (decide (v37<((a0.Al.length:Nat):Int))) (Option.bind (A0 a0.Al v37) fun VR=>Option.bind (Ca a0.spurs VR) fun (x50,x51)=>Option.bind (A0 a0.spurs x50) fun Z8=>Option.bind (AW 5 [Z8.name] [(IntKind.i64.wrap ((IntKind.i64.wrap (x51 - Z8.base))+1))] YA) fun x57=>some (Sum.inl (x57,(IntKind.i64.wrap (v37+1))))) (some (Sum.inr (YA,v37)))
theorem Gy (a0:Nt) (YA:List Dc) (v37:Int):GX a0 (YA,v37)=cond (decide (v37<((a0.Al.length:Nat):Int))) (Option.bind (A0 a0.Al v37) fun VR=>Option.bind (Ca a0.spurs VR) fun (x50,x51)=>Option.bind (A0 a0.spurs x50) fun Z8=>Option.bind (AW 5 [Z8.name] [(IntKind.i64.wrap ((IntKind.i64.wrap (x51 - Z8.base))+1))] YA) fun x57=>some (Sum.inl (x57,(IntKind.i64.wrap (v37+1))))) (some (Sum.inr (YA,v37))):=rfl
noncomputable def GW (a0:Nt):(List Dc)×Int→Option (((List Dc)×Int)⊕(((List Dc)×Int)))
 | (v26,LN)=>cond (decide (LN<((a0.spurs.length:Nat):Int))) (Option.bind (A0 a0.spurs LN) fun G1=>cond G1.A1 (Option.bind (A0 a0.blocks G1.Ft) fun Z7=>Option.bind (A0 a0.blocks G1.out) fun x82=>Option.bind (AW 4 [G1.name,Z7.name,x82.name] [G1.AH] v26) fun x86=>some (Sum.inl (x86,(IntKind.i64.wrap (LN+1))))) (Option.bind (A0 a0.blocks G1.Ft) fun x68=>Option.bind (A0 a0.blocks G1.out) fun x72=>Option.bind (AW 3 [G1.name,x68.name,x72.name] [G1.AH] v26) fun x76=>some (Sum.inl (x76,(IntKind.i64.wrap (LN+1)))))) (some (Sum.inr (v26,LN)))
theorem Gx (a0:Nt) (v26:List Dc) (LN:Int):GW a0 (v26,LN)=cond (decide (LN<((a0.spurs.length:Nat):Int))) (Option.bind (A0 a0.spurs LN) fun G1=>cond G1.A1 (Option.bind (A0 a0.blocks G1.Ft) fun Z7=>Option.bind (A0 a0.blocks G1.out) fun x82=>Option.bind (AW 4 [G1.name,Z7.name,x82.name] [G1.AH] v26) fun x86=>some (Sum.inl (x86,(IntKind.i64.wrap (LN+1))))) (Option.bind (A0 a0.blocks G1.Ft) fun x68=>Option.bind (A0 a0.blocks G1.out) fun x72=>Option.bind (AW 3 [G1.name,x68.name,x72.name] [G1.AH] v26) fun x76=>some (Sum.inl (x76,(IntKind.i64.wrap (LN+1)))))) (some (Sum.inr (v26,LN))):=rfl
noncomputable def E4 (a0:Nt) (v17:Int) (LL:List Int):(List Dc)×Int→Option (((List Dc)×Int)⊕(((List Dc)×Int)))
 | (UD,Nh)=>cond (decide (Nh<((LL.length:Nat):Int))) (Option.bind (A0 LL Nh) fun u6=>Option.bind (A0 a0.blocks v17) fun V1=>Option.bind (A0 a0.blocks u6) fun V0=>Option.bind (AW 2 [V1.name,V0.name] [] UD) fun Af2=>some (Sum.inl (Af2,(IntKind.i64.wrap (Nh+1))))) (some (Sum.inr (UD,Nh)))
theorem Gt (a0:Nt) (v17:Int) (LL:List Int) (UD:List Dc) (Nh:Int):E4 a0 v17 LL (UD,Nh)=cond (decide (Nh<((LL.length:Nat):Int))) (Option.bind (A0 LL Nh) fun u6=>Option.bind (A0 a0.blocks v17) fun V1=>Option.bind (A0 a0.blocks u6) fun V0=>Option.bind (AW 2 [V1.name,V0.name] [] UD) fun Af2=>some (Sum.inl (Af2,(IntKind.i64.wrap (Nh+1))))) (some (Sum.inr (UD,Nh))):=rfl
noncomputable def GV (a0:Nt):(List Dc)×Int→Option (((List Dc)×Int)⊕(((List Dc)×Int)))
 | (L1,v17)=>cond (decide (v17<((a0.next.length:Nat):Int))) (Option.bind (A0 a0.next v17) fun LL=>Option.bind (AS (E4 a0 v17 LL) (L1,0)) (fun (Ap7,v148)=>some (Sum.inl (Ap7,(IntKind.i64.wrap (v17+1)))))) (some (Sum.inr (L1,v17)))
theorem Gr (a0:Nt) (L1:List Dc) (v17:Int):GV a0 (L1,v17)=cond (decide (v17<((a0.next.length:Nat):Int))) (Option.bind (A0 a0.next v17) fun LL=>Option.bind (AS (E4 a0 v17 LL) (L1,0)) (fun (Ap7,v148)=>some (Sum.inl (Ap7,(IntKind.i64.wrap (v17+1)))))) (some (Sum.inr (L1,v17))):=rfl
noncomputable def GU (a0:Nt):(List Dc)×Int→Option (((List Dc)×Int)⊕(((List Dc)×Int)))
 | (v6,v7)=>cond (decide (v7<((a0.blocks.length:Nat):Int))) (Option.bind (A0 a0.blocks v7) fun Nb=>Option.bind (AW 1 [Nb.name] [Nb.x,Nb.y] v6) fun Aey=>some (Sum.inl (Aey,(IntKind.i64.wrap (v7+1))))) (some (Sum.inr (v6,v7)))
theorem Gq (a0:Nt) (v6:List Dc) (v7:Int):GU a0 (v6,v7)=cond (decide (v7<((a0.blocks.length:Nat):Int))) (Option.bind (A0 a0.blocks v7) fun Nb=>Option.bind (AW 1 [Nb.name] [Nb.x,Nb.y] v6) fun Aey=>some (Sum.inl (Aey,(IntKind.i64.wrap (v7+1))))) (some (Sum.inr (v6,v7))):=rfl
noncomputable def HZ (a0:Nt):Option ((List Dc)×Int):=
 Option.bind (C3 (⟨a0.blocks,a0.next,a0.spurs,a0.Al,a0.cq,a0.ca,a0.cd,a0.cp⟩:Nt)) fun x1=>cond x1 (Option.bind (AS (GU a0) ([],0)) (fun (Ap5,Alb)=>Option.bind (AS (GV a0) (Ap5,0)) (fun (Av9,v390)=>Option.bind (AS (GW a0) (Av9,0)) (fun (Av8,v456)=>Option.bind (AS (GX a0) (Av8,0)) (fun (Av7,v483)=>Option.bind (AW 6 [] [a0.cq,a0.ca,a0.cd,a0.cp] Av7) fun Av3=>some (Av3,0)))))) (some ([],20))
theorem SS (a0:Nt) (r:(List Dc)×Int) (hr:HZ a0=some r):
   Aj Tryz.prog 50 [.agg [.p (.sl (Bi a0.blocks)),.p (.sl (AM a0.next)),.p (.sl (Bh a0.spurs)),.p (.sl (Ag a0.Al)),.p (.int .i64 a0.cq),.p (.int .i64 a0.ca),.p (.int .i64 a0.cd),.p (.int .i64 a0.cp)]] [] fun h d=>h=[]∧d= .BA [.p (.sl (BO r.1)),.p (.int .i64 r.2)]:=by
 refine Ak Tryz.func50 rfl Aj1 (by simp[Tryz.f50]) ?_;unfold HZ at hr;obtain ⟨x1,g2,hr⟩:=bE hr;try simp only[go_sem]
 refine Au (IA (⟨a0.blocks,a0.next,a0.spurs,a0.Al,a0.cq,a0.ca,a0.cd,a0.cp⟩:Nt) _ g2) ?_;rintro h' r ⟨rfl,rfl⟩;cases c3:x1
 · simp only[c3,cond_false] at hr;obtain rfl:=Option.some.inj hr;try simp only[go_sem,c3]
   all_goals (try refine Ah ?_)
   all_goals (try simp only[go_sem,c3])
   all_goals (try (first | rfl | exact ⟨rfl,rfl⟩ | (simp;done)))
 simp only[c3,cond_true] at hr;obtain ⟨e11,g12,hr⟩:=bE hr;try simp only[go_sem,c3]
 refine Bl g12 (fun q:(List Dc)×Int=>⟨[(1,.ptr 1 0),(4,.ptr 4 0),(5,.fn 88 [.ptr 4 0]),(24,.p (.sl (Bi a0.blocks))),(25,.p (.int .i64 ((a0.blocks.length:Nat):Int))),(26,.p (.int .i64 q.2))],[(1,.box [.p (.sl (Bi a0.blocks)),.p (.sl (AM a0.next)),.p (.sl (Bh a0.spurs)),.p (.sl (Ag a0.Al)),.p (.int .i64 a0.cq),.p (.int .i64 a0.ca),.p (.int .i64 a0.cd),.p (.int .i64 a0.cp)]),(4,.box [.ref 504000 0 q.1.length q.1.length]),(504000,.arr 82 4 (BO q.1))],150⟩) ((Wk.E3 (id:=4) (j:=0) (q:=504000) (sz:=4) 82 rfl rfl rfl (by decide)).trans ((Wk.forget (by simp[Le,AG,Av,get,Aa,Ac,Ad,D.ids,Ai,AO.ids,Ae,base,ZE,c3])))) ?_;rintro ⟨v6,v7⟩ m10 Dz Zk;rw[Gq] at Dz;cases MU:decide (v7<((a0.blocks.length:Nat):Int))
 · simp only[MU,cond_false] at Dz;simp only[Option.bind_some,Ar] at Dz;obtain rfl:=Option.some.inj Dz;try dsimp only at hr
   obtain ⟨e21,g22,hr⟩:=bE hr;try simp only[go_sem,MU]
   refine Bl g22 (fun q:(List Dc)×Int=>⟨[(1,.ptr 1 0),(4,.ptr 4 0),(5,.fn 88 [.ptr 4 0]),(42,.p (.sl (AM a0.next))),(43,.p (.int .i64 ((a0.next.length:Nat):Int))),(44,.p (.int .i64 q.2))],[(1,.box [.p (.sl (Bi a0.blocks)),.p (.sl (AM a0.next)),.p (.sl (Bh a0.spurs)),.p (.sl (Ag a0.Al)),.p (.int .i64 a0.cq),.p (.int .i64 a0.ca),.p (.int .i64 a0.cd),.p (.int .i64 a0.cp)]),(4,.box [.ref 504000 0 q.1.length q.1.length]),(504000,.arr 82 4 (BO q.1))],150⟩) ((Wk.forget (by simp[Le,AG,Av,get,Aa,Ac,Ad,D.ids,Ai,AO.ids,Ae,base,ZE,c3]))) ?_;rintro ⟨L1,v17⟩ m20 Qi Awa;rw[Gr] at Qi;cases c23:decide (v17<((a0.next.length:Nat):Int))
   · simp only[c23,cond_false] at Qi;simp only[Option.bind_some,Ar] at Qi;obtain rfl:=Option.some.inj Qi;try dsimp only at hr
     obtain ⟨e31,g32,hr⟩:=bE hr;try simp only[go_sem,c23]
     refine Bl g32 (fun q:(List Dc)×Int=>⟨[(1,.ptr 1 0),(4,.ptr 4 0),(5,.fn 88 [.ptr 4 0]),(73,.p (.sl (Bh a0.spurs))),(74,.p (.int .i64 ((a0.spurs.length:Nat):Int))),(75,.p (.int .i64 q.2))],[(1,.box [.p (.sl (Bi a0.blocks)),.p (.sl (AM a0.next)),.p (.sl (Bh a0.spurs)),.p (.sl (Ag a0.Al)),.p (.int .i64 a0.cq),.p (.int .i64 a0.ca),.p (.int .i64 a0.cd),.p (.int .i64 a0.cp)]),(4,.box [.ref 504000 0 q.1.length q.1.length]),(504000,.arr 82 4 (BO q.1))],150⟩) ((Wk.forget (by simp[Le,AG,Av,get,Aa,Ac,Ad,D.ids,Ai,AO.ids,Ae,base,ZE,c3]))) ?_;rintro ⟨v26,LN⟩ m30 BN Amd;rw[Gx] at BN;cases c33:decide (LN<((a0.spurs.length:Nat):Int))
     · simp only[c33,cond_false] at BN;simp only[Option.bind_some,Ar] at BN;obtain rfl:=Option.some.inj BN;try dsimp only at hr
       obtain ⟨e41,g42,hr⟩:=bE hr;try simp only[go_sem,c33]
       refine Bl g42 (fun q:(List Dc)×Int=>⟨[(1,.ptr 1 0),(4,.ptr 4 0),(5,.fn 88 [.ptr 4 0]),(106,.p (.sl (Ag a0.Al))),(107,.p (.int .i64 ((a0.Al.length:Nat):Int))),(108,.p (.int .i64 q.2))],[(1,.box [.p (.sl (Bi a0.blocks)),.p (.sl (AM a0.next)),.p (.sl (Bh a0.spurs)),.p (.sl (Ag a0.Al)),.p (.int .i64 a0.cq),.p (.int .i64 a0.ca),.p (.int .i64 a0.cd),.p (.int .i64 a0.cp)]),(4,.box [.ref 504000 0 q.1.length q.1.length]),(504000,.arr 82 4 (BO q.1))],150⟩) ((Wk.forget (by simp[Le,AG,Av,get,Aa,Ac,Ad,D.ids,Ai,AO.ids,Ae,base,ZE,c3]))) ?_;rintro ⟨YA,v37⟩ m40 MD Aw8;rw[Gy] at MD;cases c43:decide (v37<((a0.Al.length:Nat):Int))
       · simp only[c43,cond_false] at MD;simp only[Option.bind_some,Ar] at MD;obtain rfl:=Option.some.inj MD;try dsimp only at hr
         obtain ⟨x44,g45,hr⟩:=bE hr;try simp only[go_sem,c43]
         refine Au (BQ 6 [] [a0.cq,a0.ca,a0.cd,a0.cp] YA _ g45) ?_;rintro h' r ⟨rfl,rfl⟩;obtain rfl:=Option.some.inj hr;try simp only[go_sem]
         all_goals (try refine Ah ?_)
         all_goals (try simp only[go_sem])
         all_goals (try (first | rfl | exact ⟨rfl,rfl⟩ | (simp;done)))
       simp only[c43,cond_true] at MD;obtain ⟨VR,g47,MD⟩:=bK MD;have f48:=AA g47;have f49:(Ag a0.Al).getD (Int.toNat v37) []=[(.int .i64 VR)]:=AB _ g47;obtain ⟨⟨x50,x51⟩,g52,MD⟩:=bK MD;try simp only[go_sem,c43,f48,f49]
       refine Au (Kg a0.spurs VR _ g52) ?_;rintro h' r ⟨rfl,rfl⟩;try simp only[go_sem]
       refine AY mixed (p:=[(0,0),(1,0),(2,0),(3,0),(4,0),(5,0),(6,0),(8,0),(9,0),(10,0),(11,0),(12,0),(13,0),(14,0),(15,0),(16,0),(7,1),(17,1),(18,3)]) (by kernel_rfl) (by simp[Av,get]) ?_;obtain ⟨Z8,g54,MD⟩:=bK MD;have f55:=AA g54;have f56:(Bh a0.spurs).getD (Int.toNat x50) []=[(.str Z8.name),(.bool Z8.A1),(.int .i64 Z8.Ft),(.int .i64 Z8.out),(.int .i64 Z8.AH),(.int .i64 Z8.base)]:=AB _ g54;obtain ⟨x57,g58,MD⟩:=bK MD;try simp only[go_sem,f55,f56]
       refine Bu (BQ 5 [Z8.name] [(IntKind.i64.wrap ((IntKind.i64.wrap (x51 - Z8.base))+1))] YA _ g58) ?_;rintro h' r ⟨rfl,rfl⟩;simp only[Option.bind_some,At] at MD;try simp only[go_sem]
       exact Aw8 (x57,(IntKind.i64.wrap (v37+1))) _ MD ((Wk.forget (by simp[Le,AG,Av,get,Aa,Ac,Ad,D.ids,Ai,AO.ids,Ae,base,ZE,c3])))
     simp only[c33,cond_true] at BN;obtain ⟨G1,g64,BN⟩:=bK BN;have f65:=AA g64;have f66:(Bh a0.spurs).getD (Int.toNat LN) []=[(.str G1.name),(.bool G1.A1),(.int .i64 G1.Ft),(.int .i64 G1.out),(.int .i64 G1.AH),(.int .i64 G1.base)]:=AB _ g64;cases c67:G1.A1
     · simp only[c67,cond_false] at BN;try simp only[go_sem,c33,f65,f66,c67]
       refine AY mixed (p:=[(0,0),(1,0),(2,0),(3,0),(4,0),(5,0),(6,0),(7,0),(8,0),(9,0),(10,0),(11,0),(12,0),(13,0),(14,0),(15,0),(16,0),(17,0),(19,0),(20,0),(18,1),(21,1),(22,3)]) (by kernel_rfl) (by simp[Av,get]) ?_;obtain ⟨x68,g69,BN⟩:=bK BN;have f70:=AA g69;have f71:(Bi a0.blocks).getD (Int.toNat G1.Ft) []=[(.str x68.name),(.int .i64 x68.x),(.int .i64 x68.y)]:=AB _ g69;obtain ⟨x72,g73,BN⟩:=bK BN;have f74:=AA g73;have f75:(Bi a0.blocks).getD (Int.toNat G1.out) []=[(.str x72.name),(.int .i64 x72.x),(.int .i64 x72.y)]:=AB _ g73;obtain ⟨x76,g77,BN⟩:=bK BN;try simp only[go_sem,f70,f71,f74,f75]
       refine Bu (BQ 3 [G1.name,x68.name,x72.name] [G1.AH] v26 _ g77) ?_;rintro h' r ⟨rfl,rfl⟩;simp only[Option.bind_some,At] at BN;try simp only[go_sem]
       exact Amd (x76,(IntKind.i64.wrap (LN+1))) _ BN ((Wk.forget (by simp[Le,AG,Av,get,Aa,Ac,Ad,D.ids,Ai,AO.ids,Ae,base,ZE,c3,c67])))
     simp only[c67,cond_true] at BN;try simp only[go_sem,c33,f65,f66,c67]
     refine AY mixed (p:=[(0,0),(1,0),(2,0),(3,0),(4,0),(5,0),(6,0),(7,0),(8,0),(9,0),(10,0),(11,0),(12,0),(13,0),(14,0),(15,0),(16,0),(17,0),(19,0),(20,0),(18,1),(21,1),(22,3)]) (by kernel_rfl) (by simp[Av,get]) ?_;obtain ⟨Z7,g79,BN⟩:=bK BN;have f80:=AA g79;have f81:(Bi a0.blocks).getD (Int.toNat G1.Ft) []=[(.str Z7.name),(.int .i64 Z7.x),(.int .i64 Z7.y)]:=AB _ g79;obtain ⟨x82,g83,BN⟩:=bK BN;have f84:=AA g83;have f85:(Bi a0.blocks).getD (Int.toNat G1.out) []=[(.str x82.name),(.int .i64 x82.x),(.int .i64 x82.y)]:=AB _ g83;obtain ⟨x86,g87,BN⟩:=bK BN;try simp only[go_sem,f80,f81,f84,f85]
     refine Bu (BQ 4 [G1.name,Z7.name,x82.name] [G1.AH] v26 _ g87) ?_;rintro h' r ⟨rfl,rfl⟩;simp only[Option.bind_some,At] at BN;try simp only[go_sem]
     exact Amd (x86,(IntKind.i64.wrap (LN+1))) _ BN ((Wk.forget (by simp[Le,AG,Av,get,Aa,Ac,Ad,D.ids,Ai,AO.ids,Ae,base,ZE,c3,c67])))
   simp only[c23,cond_true] at Qi;obtain ⟨LL,Aub,Qi⟩:=bK Qi;have f121:=AA Aub;have f122:(AM a0.next).getD (Int.toNat v17) []=[(.sl (Ag LL))]:=AB _ Aub;obtain ⟨e130,Axq,Qi⟩:=bK Qi;try simp only[go_sem,c23,f121,f122]
   refine Bl Axq (fun q:(List Dc)×Int=>⟨[(1,.ptr 1 0),(4,.ptr 4 0),(5,.fn 88 [.ptr 4 0]),(8,.p (.int .i64 v17)),(42,.p (.sl (AM a0.next))),(43,.p (.int .i64 ((a0.next.length:Nat):Int))),(44,.p (.int .i64 v17)),(49,.p (.sl (Ag LL))),(50,.p (.int .i64 ((LL.length:Nat):Int))),(51,.p (.int .i64 q.2))],[(1,.box [.p (.sl (Bi a0.blocks)),.p (.sl (AM a0.next)),.p (.sl (Bh a0.spurs)),.p (.sl (Ag a0.Al)),.p (.int .i64 a0.cq),.p (.int .i64 a0.ca),.p (.int .i64 a0.cd),.p (.int .i64 a0.cp)]),(4,.box [.ref 504000 0 q.1.length q.1.length]),(504000,.arr 82 4 (BO q.1))],150⟩) ((Wk.forget (by simp[Le,AG,Av,get,Aa,Ac,Ad,D.ids,Ai,AO.ids,Ae,base,ZE,c3]))) ?_;rintro ⟨UD,Nh⟩ m129 Hu Asr;rw[Gt] at Hu;cases Anc:decide (Nh<((LL.length:Nat):Int))
   · simp only[Anc,cond_false] at Hu;simp only[Option.bind_some,Ar] at Hu;obtain rfl:=Option.some.inj Hu;try dsimp only at Qi
     simp only[Option.bind_some,At] at Qi;try simp only[go_sem,Anc]
     exact Awa (UD,(IntKind.i64.wrap (v17+1))) _ Qi ((Wk.forget (by simp[Le,AG,Av,get,Aa,Ac,Ad,D.ids,Ai,AO.ids,Ae,base,ZE,c3])))
   simp only[Anc,cond_true] at Hu;obtain ⟨u6,Au8,Hu⟩:=bK Hu;have f135:=AA Au8;have f136:(Ag LL).getD (Int.toNat Nh) []=[(.int .i64 u6)]:=AB _ Au8;try simp only[go_sem,Anc,f135,f136]
   refine AY mixed (p:=[(0,0),(1,0),(2,0),(3,0),(4,0),(5,0),(6,0),(7,0),(8,0),(9,0),(10,0),(11,0),(12,0),(13,1),(14,3)]) (by kernel_rfl) (by simp[Av,get]) ?_;obtain ⟨V1,Au7,Hu⟩:=bK Hu;have f139:=AA Au7;have f140:(Bi a0.blocks).getD (Int.toNat v17) []=[(.str V1.name),(.int .i64 V1.x),(.int .i64 V1.y)]:=AB _ Au7;obtain ⟨V0,Amv,Hu⟩:=bK Hu;have f143:=AA Amv;have f144:(Bi a0.blocks).getD (Int.toNat u6) []=[(.str V0.name),(.int .i64 V0.x),(.int .i64 V0.y)]:=AB _ Amv;obtain ⟨Af2,Axp,Hu⟩:=bK Hu;try simp only[go_sem,f139,f140,f143,f144]
   refine Bu (BQ 2 [V1.name,V0.name] [] UD _ Axp) ?_;rintro h' r ⟨rfl,rfl⟩;simp only[Option.bind_some,At] at Hu;try simp only[go_sem]
   exact Asr (Af2,(IntKind.i64.wrap (Nh+1))) _ Hu ((Wk.forget (by simp[Le,AG,Av,get,Aa,Ac,Ad,D.ids,Ai,AO.ids,Ae,base,ZE,c3])))
 simp only[MU,cond_true] at Dz;obtain ⟨Nb,Au1,Dz⟩:=bK Dz;have f248:=AA Au1;have f249:(Bi a0.blocks).getD (Int.toNat v7) []=[(.str Nb.name),(.int .i64 Nb.x),(.int .i64 Nb.y)]:=AB _ Au1;obtain ⟨Aey,Axl,Dz⟩:=bK Dz;try simp only[go_sem,MU,f248,f249]
 refine Au (BQ 1 [Nb.name] [Nb.x,Nb.y] v6 _ Axl) ?_;rintro h' r ⟨rfl,rfl⟩;simp only[Option.bind_some,At] at Dz;try simp only[go_sem]
 exact Zk (Aey,(IntKind.i64.wrap (v7+1))) _ Dz ((Wk.forget (by simp[Le,AG,Av,get,Aa,Ac,Ad,D.ids,Ai,AO.ids,Ae,base,ZE,c3])))
noncomputable def Ea (a0:Int):Option (Bool):=
 some (!decide (a0=a0))
theorem JR (a0:Int) (r:Bool) (hr:Ea a0=some r):
   Aj Tryz.prog 178 [.p (.int .i64 a0)] [] fun h d=>h=[]∧d= .p (.bool r):=by
 refine Ak Tryz.func178 rfl Ace (by simp[Tryz.f178]) ?_;unfold Ea at hr;obtain rfl:=Option.some.inj hr;try simp only[go_sem]
 all_goals (try refine Ah ?_)
 all_goals (try simp only[go_sem])
 all_goals (try (first | rfl | exact ⟨rfl,rfl⟩ | (simp;done)))
noncomputable def DN (a0:Int) (a1:Int):Option (Bool):=
 Option.bind (Ea a0) fun x1=>cond x1 (Option.bind (Ea a1) fun x4=>cond x4 (some (decide (a0<a1))) (some true)) (some (decide (a0<a1)))
theorem QV (a0:Int) (a1:Int) (r:Bool) (hr:DN a0 a1=some r):
   Aj Tryz.prog 150 [.p (.int .i64 a0),.p (.int .i64 a1)] [] fun h d=>h=[]∧d= .p (.bool r):=by
 refine Ak Tryz.func150 rfl Aco (by simp[Tryz.f150]) ?_;unfold DN at hr;obtain ⟨x1,g2,hr⟩:=bE hr;try simp only[go_sem]
 refine Au (JR a0 _ g2) ?_;rintro h' r ⟨rfl,rfl⟩;cases c3:x1
 · simp only[c3,cond_false] at hr;obtain rfl:=Option.some.inj hr;try simp only[go_sem,c3]
   all_goals (try refine Ah ?_)
   all_goals (try simp only[go_sem,c3])
   all_goals (try (first | rfl | exact ⟨rfl,rfl⟩ | (simp;done)))
 simp only[c3,cond_true] at hr;obtain ⟨x4,g5,hr⟩:=bE hr;try simp only[go_sem,c3]
 refine Au (JR a1 _ g5) ?_;rintro h' r ⟨rfl,rfl⟩;cases c6:x4
 · simp only[c6,cond_false] at hr;obtain rfl:=Option.some.inj hr;try simp only[go_sem,c3,c6]
   all_goals (try refine Ah ?_)
   all_goals (try simp only[go_sem,c3,c6])
   all_goals (try (first | rfl | exact ⟨rfl,rfl⟩ | (simp;done)))
 simp only[c6,cond_true] at hr;obtain rfl:=Option.some.inj hr;try simp only[go_sem,c3,c6]
 all_goals (try refine Ah ?_)
 all_goals (try simp only[go_sem,c3,c6])
 all_goals (try (first | rfl | exact ⟨rfl,rfl⟩ | (simp;done)))
noncomputable def NI (a1:Int):(List Int)×Int→Option (((List Int)×Int)⊕(((List Int)×Int)))
 | (FT,L2)=>cond (decide (a1<L2)) (Option.bind (A0 FT L2) fun x21=>Option.bind (A0 FT (IntKind.i64.wrap (L2 - 1))) fun Ok=>Option.bind (DN x21 Ok) fun x29=>cond x29 (Option.bind (A0 (FT.set (Int.toNat L2) Ok) (IntKind.i64.wrap (L2 - 1))) fun QE=>some (Sum.inl (((FT.set (Int.toNat L2) Ok).set (Int.toNat (IntKind.i64.wrap (L2 - 1))) x21),(IntKind.i64.wrap (L2 - 1))))) (some (Sum.inr (FT,L2)))) (some (Sum.inr (FT,L2)))
theorem KH (a1:Int) (FT:List Int) (L2:Int):NI a1 (FT,L2)=cond (decide (a1<L2)) (Option.bind (A0 FT L2) fun x21=>Option.bind (A0 FT (IntKind.i64.wrap (L2 - 1))) fun Ok=>Option.bind (DN x21 Ok) fun x29=>cond x29 (Option.bind (A0 (FT.set (Int.toNat L2) Ok) (IntKind.i64.wrap (L2 - 1))) fun QE=>some (Sum.inl (((FT.set (Int.toNat L2) Ok).set (Int.toNat (IntKind.i64.wrap (L2 - 1))) x21),(IntKind.i64.wrap (L2 - 1))))) (some (Sum.inr (FT,L2)))) (some (Sum.inr (FT,L2))):=rfl
noncomputable def Rm (a1:Int) (a2:Int):(List Int)×Int→Option (((List Int)×Int)⊕(((List Int)×Int)))
 | (v3,v4)=>cond (decide (v4<a2)) (Option.bind (AS (NI a1) (v3,v4)) (fun (YA,v37)=>some (Sum.inl (YA,(IntKind.i64.wrap (v4+1)))))) (some (Sum.inr (v3,v4)))
theorem H2 (a1:Int) (a2:Int) (v3:List Int) (v4:Int):Rm a1 a2 (v3,v4)=cond (decide (v4<a2)) (Option.bind (AS (NI a1) (v3,v4)) (fun (YA,v37)=>some (Sum.inl (YA,(IntKind.i64.wrap (v4+1)))))) (some (Sum.inr (v3,v4))):=rfl
noncomputable def Qs (a0:List Int) (a1:Int) (a2:Int):Option ((List Int)):=
 Option.bind (AS (Rm a1 a2) (a0,(IntKind.i64.wrap (a1+1)))) (fun (Wg,v39)=>some Wg)
theorem Abf (a0:List Int) (a1:Int) (a2:Int) (r:(List Int)) (hr:Qs a0 a1 a2=some r):
   Aj Tryz.prog 144 [.ref 1000000 0 a0.length a0.length,.p (.int .i64 a1),.p (.int .i64 a2)] [(1000000,.arr 3 1 (Ag a0))] fun h d=>h=[(1000000,.arr 3 1 (Ag r))]∧d= .BA []:=by
 refine Ak Tryz.func144 rfl Acp (by simp[Tryz.f144]) ?_;unfold Qs at hr;obtain ⟨e8,g9,hr⟩:=bE hr;try simp only[go_sem]
 refine Bl g9 (fun q:(List Int)×Int=>⟨[(0,.ref 1000000 0 q.1.length q.1.length),(1,.p (.int .i64 a1)),(2,.p (.int .i64 a2)),(6,.p (.int .i64 q.2))],[(1000000,.arr 3 1 (Ag q.1))],49⟩) ((Wk.forget (by simp[Le,AG,Av,get,Aa,Ac,Ad,D.ids,Ai,AO.ids,Ae,base,ZE]))) ?_;rintro ⟨v3,v4⟩ m7 GB ih6;rw[H2] at GB;cases Iq:decide (v4<a2)
 · simp only[Iq,cond_false] at GB;simp only[Option.bind_some,Ar] at GB;obtain rfl:=Option.some.inj GB;try dsimp only at hr
   obtain rfl:=Option.some.inj hr;try simp only[go_sem,Iq]
   all_goals (try refine Bc ?_)
   all_goals (try simp only[go_sem,Iq])
   all_goals (try (first | rfl | exact ⟨rfl,rfl⟩ | (simp;done)))
 simp only[Iq,cond_true] at GB;obtain ⟨e18,g19,GB⟩:=bK GB;try simp only[go_sem,Iq]
 refine Bl g19 (fun q:(List Int)×Int=>⟨[(0,.ref 1000000 0 q.1.length q.1.length),(1,.p (.int .i64 a1)),(2,.p (.int .i64 a2)),(6,.p (.int .i64 v4)),(7,.p (.int .i64 q.2))],[(1000000,.arr 3 1 (Ag q.1))],49⟩) ((Wk.forget (by simp[Le,AG,Av,get,Aa,Ac,Ad,D.ids,Ai,AO.ids,Ae,base,ZE]))) ?_;rintro ⟨FT,L2⟩ m17 Jr Awb;rw[KH] at Jr;try simp only[go_sem]
 refine AY mixed (p:=[(0,0),(1,0),(2,0),(3,0),(4,0),(5,0),(6,0),(7,0),(8,0),(9,0),(10,0),(11,0),(12,0),(13,2),(14,0)]) (by kernel_rfl) (by simp[Av,get]) ?_;cases c20:decide (a1<L2)
 · simp only[c20,cond_false] at Jr;simp only[Option.bind_some,Ar] at Jr;obtain rfl:=Option.some.inj Jr;try dsimp only at GB
   simp only[Option.bind_some,At] at GB;try simp only[go_sem,c20]
   exact ih6 (FT,(IntKind.i64.wrap (v4+1))) _ GB ((Wk.forget (by simp[Le,AG,Av,get,Aa,Ac,Ad,D.ids,Ai,AO.ids,Ae,base,ZE])))
 simp only[c20,cond_true] at Jr;obtain ⟨x21,g22,Jr⟩:=bK Jr;have f23:=AA g22;have f24:(Ag FT).getD (Int.toNat L2) []=[(.int .i64 x21)]:=AB _ g22;obtain ⟨Ok,g26,Jr⟩:=bK Jr;have f27:=AA g26;have f28:(Ag FT).getD (Int.toNat (IntKind.i64.wrap (L2 - 1))) []=[(.int .i64 Ok)]:=AB _ g26;obtain ⟨x29,g30,Jr⟩:=bK Jr;try simp only[go_sem,c20,f23,f24,f27,f28]
 refine Bu (QV x21 Ok _ g30) ?_;rintro h' r ⟨rfl,rfl⟩;cases Ow:x29
 · simp only[Ow,cond_false] at Jr;simp only[Option.bind_some,Ar] at Jr;obtain rfl:=Option.some.inj Jr;try dsimp only at GB
   simp only[Option.bind_some,At] at GB;try simp only[go_sem,c20,Ow]
   exact ih6 (FT,(IntKind.i64.wrap (v4+1))) _ GB ((Wk.forget (by simp[Le,AG,Av,get,Aa,Ac,Ad,D.ids,Ai,AO.ids,Ae,base,ZE,Ow])))
 simp only[Ow,cond_true] at Jr;try simp only[go_sem,c20,Ow]
 refine AY mixed (p:=[(0,0),(1,0),(2,0),(3,0),(4,0),(5,0),(6,0),(7,0),(8,0),(9,0),(10,0),(11,0),(12,0),(13,0),(14,0),(15,4),(16,4),(17,4)]) (by kernel_rfl) (by simp[Av,get]) ?_;obtain ⟨QE,g33,Jr⟩:=bK Jr;have f34:=AA g33;have f35:(Ag (FT.set (Int.toNat L2) Ok)).getD (Int.toNat (IntKind.i64.wrap (L2 - 1))) []=[(.int .i64 QE)]:=AB _ g33;simp only[Option.bind_some,At] at Jr;try simp only[go_sem,f27,f28,f23,f24,f34,f35]
 exact Awb (((FT.set (Int.toNat L2) Ok).set (Int.toNat (IntKind.i64.wrap (L2 - 1))) x21),(IntKind.i64.wrap (L2 - 1))) _ Jr ((Wk.forget (by simp[Le,AG,Av,get,Aa,Ac,Ad,D.ids,Ai,AO.ids,Ae,base,ZE,Ow])))
noncomputable def CC (a0:BY):Option (Bool):=
 some a0.A1
theorem Ki (a0:BY) (r:Bool) (hr:CC a0=some r):
   Aj Tryz.prog 65 [.agg [.p (.str a0.name),.p (.bool a0.A1),.p (.int .i64 a0.Ft),.p (.int .i64 a0.out),.p (.int .i64 a0.AH),.p (.int .i64 a0.base)]] [] fun h d=>h=[]∧d= .p (.bool r):=by
 refine Ak Tryz.func65 rfl Aio (by simp[Tryz.f65]) ?_;unfold CC at hr;obtain rfl:=Option.some.inj hr;try simp only[go_sem]
 all_goals (try refine Ah ?_)
 all_goals (try simp only[go_sem])
 all_goals (try (first | rfl | exact ⟨rfl,rfl⟩ | (simp;done)))
noncomputable def Dy (a0:List BY):Int→Option ((Int)⊕(Int⊕Int))
 | v2=>cond (decide (v2<((a0.length:Nat):Int))) (Option.bind (A0 a0 v2) fun x9=>Option.bind (CC (⟨x9.name,x9.A1,x9.Ft,x9.out,x9.AH,x9.base⟩:BY)) fun Tb=>cond Tb (some (Sum.inr (.inr ((v2:Int))))) (some (Sum.inl (IntKind.i64.wrap (v2+1))))) (some (Sum.inr (.inl v2)))
theorem CW (a0:List BY) (v2:Int):Dy a0 v2=cond (decide (v2<((a0.length:Nat):Int))) (Option.bind (A0 a0 v2) fun x9=>Option.bind (CC (⟨x9.name,x9.A1,x9.Ft,x9.out,x9.AH,x9.base⟩:BY)) fun Tb=>cond Tb (some (Sum.inr (.inr ((v2:Int))))) (some (Sum.inl (IntKind.i64.wrap (v2+1))))) (some (Sum.inr (.inl v2))):=rfl
noncomputable def CR (a0:List BY):Option (Int):=
 Option.bind (AS (Dy a0) 0) (fun | .inl L1=>some (-1) | .inr (r17)=>some r17)
theorem I6 (a0:List BY) (r:Int) (hr:CR a0=some r):
   Aj Tryz.prog 89 [.p (.sl (Bh a0)),.fn 65 []] [] fun h d=>h=[]∧d= .p (.int .i64 r):=by
 refine Ak Tryz.func89 rfl Xn (by simp[Tryz.f89]) ?_;unfold CR at hr;obtain ⟨e6,g7,hr⟩:=bE hr;try simp only[go_sem]
 refine Bl g7 (fun q:Int=>⟨[(0,.p (.sl (Bh a0))),(1,.fn 65 []),(7,.p (.int .i64 ((a0.length:Nat):Int))),(8,.p (.int .i64 q))],[],19⟩) ((Wk.forget (by simp[Le,AG,Av,get,Aa,Ac,Ad,D.ids,Ai,AO.ids,Ae,base,ZE]))) ?_;rintro v2 m5 L9 TM;rw[CW] at L9;cases c8:decide (v2<((a0.length:Nat):Int))
 · simp only[c8,cond_false] at L9;simp only[Option.bind_some,Ar] at L9;obtain rfl:=Option.some.inj L9;try dsimp only at hr
   obtain rfl:=Option.some.inj hr;try simp only[go_sem,c8]
   all_goals (try refine Ah ?_)
   all_goals (try simp only[go_sem,c8])
   all_goals (try (first | rfl | exact ⟨rfl,rfl⟩ | (simp;done)))
 simp only[c8,cond_true] at L9;obtain ⟨x9,g10,L9⟩:=bK L9;have f11:=AA g10;have f12:(Bh a0).getD (Int.toNat v2) []=[(.str x9.name),(.bool x9.A1),(.int .i64 x9.Ft),(.int .i64 x9.out),(.int .i64 x9.AH),(.int .i64 x9.base)]:=AB _ g10;obtain ⟨Tb,g14,L9⟩:=bK L9;try simp only[go_sem,c8,f11,f12]
 refine Au (Ki (⟨x9.name,x9.A1,x9.Ft,x9.out,x9.AH,x9.base⟩:BY) _ g14) ?_;rintro h' r ⟨rfl,rfl⟩;cases H4:Tb
 · simp only[H4,cond_false] at L9;simp only[Option.bind_some,At] at L9;try simp only[go_sem,H4]
   exact TM (IntKind.i64.wrap (v2+1)) _ L9 ((Wk.forget (by simp[Le,AG,Av,get,Aa,Ac,Ad,D.ids,Ai,AO.ids,Ae,base,ZE,H4])))
 simp only[H4,cond_true] at L9;simp only[Option.bind_some,Ar] at L9;obtain rfl:=Option.some.inj L9;try dsimp only at hr
 obtain rfl:=Option.some.inj hr;try simp only[go_sem,H4]
 all_goals (try refine Ah ?_)
 all_goals (try simp only[go_sem,H4])
 all_goals (try (first | rfl | exact ⟨rfl,rfl⟩ | (simp;done)))
noncomputable def LG (a0:List BY):Option (Bool):=
 Option.bind (CR a0) fun x1=>some (decide (0≤x1))
theorem XU (a0:List BY) (r:Bool) (hr:LG a0=some r):
   Aj Tryz.prog 64 [.p (.sl (Bh a0)),.fn 65 []] [] fun h d=>h=[]∧d= .p (.bool r):=by
 refine Ak Tryz.func64 rfl Aip (by simp[Tryz.f64]) ?_;unfold LG at hr;obtain ⟨x1,g2,hr⟩:=bE hr;try simp only[go_sem]
 refine Au (I6 a0 _ g2) ?_;rintro h' r ⟨rfl,rfl⟩;obtain rfl:=Option.some.inj hr;try simp only[go_sem]
 all_goals (try refine Ah ?_)
 all_goals (try simp only[go_sem])
 all_goals (try (first | rfl | exact ⟨rfl,rfl⟩ | (simp;done)))
def GY:List Int→Int→List Int
 | [],x=>[x]
 | y::r,x=>if x<y then x::y::r else y::GY r x
def He (l:List Int):List Int:=l.foldl GY []
theorem NJ (l:List Int) (x:Int):(GY l x).length=l.length+1:=by
 induction l with
 | nil=>rfl
 | cons y r ih=>simp only[GY];split<;>simp[ih]
theorem RN (l p:List Int):(l.foldl GY p).length=p.length+l.length:=by
 induction l generalizing p with
 | nil=>simp
 | cons x r ih=>simp only[List.foldl_cons,ih,NJ,List.length_cons];omega
theorem Aaa (l:List Int):(He l).length=l.length:=by simp[He,RN]
theorem Ah1 (l:List Int) (x y:Int):y∈GY l x↔y=x∨y∈l:=by
 induction l with
 | nil=>simp[GY]
 | cons z r ih=>
   simp only[GY];split
   · simp
   · simp only[List.mem_cons,ih];constructor
     · rintro (h | h | h)<;>simp[h]
     · rintro (h | h | h)<;>simp[h]
theorem WV (l:List Int) (x:Int) (h:l.Pairwise (· ≤ ·)):(GY l x).Pairwise (· ≤ ·):=by
 induction l with
 | nil=>simp[GY]
 | cons y r ih=>
   obtain ⟨h1,h2⟩:=List.pairwise_cons.1 h;simp only[GY];split
   · refine List.pairwise_cons.2 ⟨fun z hz=>?_,h⟩;rcases List.mem_cons.1 hz with rfl | hz
     · omega
     · have:=h1 z hz;omega
   · refine List.pairwise_cons.2 ⟨fun z hz=>?_,ih h2⟩;rcases (Ah1 r x z).1 hz with rfl | hz
     · omega
     · exact h1 z hz
theorem Va (p:List Int) (y x:Int) (h:x<y):GY (p++[y]) x=GY p x++[y]:=by
 induction p with
 | nil=>simp[GY,h]
 | cons z r ih=>
   simp only[List.cons_append,GY];split
   · rfl
   · rw[ih];rfl
theorem Vb (p:List Int) (y x:Int) (hs:(p++[y]).Pairwise (· ≤ ·)) (h:¬x<y):GY (p++[y]) x=p++[y,x]:=by
 induction p with
 | nil=>simp[GY,h]
 | cons z r ih=>
   simp only[List.cons_append,List.pairwise_cons] at hs;have:=hs.1 y (by simp);simp only[List.cons_append,GY];rw[if_neg (by omega),ih hs.2]
theorem k9 {α:Type} (p q:List α) (x y:α):(p++x::q).set p.length y=p++y::q:=by
 induction p with
 | nil=>rfl
 | cons z r ih=>simp[ih]
theorem Apw (a b:Int):DN a b=some (decide (a<b)):=by
 unfold DN Ea;simp
theorem WT (l:List Int):∀(n:Nat) (p:List Int) (x:Int) (q:List Int),p.length=n→p.Pairwise (· ≤ ·)→n<10000000→∃j,AS (NI 0) (p++x::q,(n:Int))=some (GY p x++q,j)
 | 0,p,x,q,hp,_,_=>by
   obtain rfl:p=[]:=List.eq_nil_of_length_eq_zero hp;refine ⟨0,?_⟩;rw[Bx,KH];simp[GY,Fq]
 | n+1,p,x,q,hp,hs,hn=>by
   obtain ⟨r,y,rfl⟩:∃r y,p=r++[y]:=by
     rcases List.eq_nil_or_concat p with h | ⟨r,y,h⟩
     · subst h;simp at hp
     · exact ⟨r,y,by simpa using h⟩
   have hr:r.length=n:=by simpa using hp
   have hw:IntKind.i64.wrap (((n+1:Nat):Int) - 1)=(n:Int):=by rw[IntKind.wrap_i64];omega
   have i1:A0 ((r++[y])++x::q) ((n+1:Nat):Int)=some x:=by
     rw[KI];simp[←hr,List.getElem?_append]
   have i2:A0 ((r++[y])++x::q) (n:Int)=some y:=by
     rw[KI];simp[←hr,List.getElem?_append]
   have s1:((r++[y])++x::q).set (n+1) y=r++y::y::q:=by
     have:=k9 (r++[y]) q x y;rw[show (r++[y]).length=n+1 by simp[hr]] at this;rw[this];simp
   have i3:A0 (((r++[y])++x::q).set (n+1) y) (n:Int)=some y:=by
     rw[s1,KI];simp[←hr,List.getElem?_append]
   have s2:(((r++[y])++x::q).set (n+1) y).set n x=r++x::(y::q):=by
     rw[s1,←hr];exact k9 r (y::q) y x
   rw[Bx,KH];have c1:decide ((0:Int)<((n+1:Nat):Int))=true:=decide_eq_true (by omega);rw[c1,cond_true,i1,Option.bind_some,hw,i2,Option.bind_some,Apw,Option.bind_some];by_cases hxy:x<y
   · have c2:decide (x<y)=true:=by simpa using hxy
     rw[c2,cond_true,show Int.toNat ((n+1:Nat):Int)=n+1 from rfl,i3,Option.bind_some,Option.bind_some,At,show Int.toNat (n:Int)=n from rfl,s2];have KN:r.Pairwise (· ≤ ·):=(List.pairwise_append.1 hs).1;obtain ⟨j,hj⟩:=WT l n r x (y::q) hr KN (by omega);refine ⟨j,?_⟩;rw[hj,Va _ _ _ hxy];simp
   · have c2:decide (x<y)=false:=by simpa using hxy
     rw[c2,cond_false,Option.bind_some,Ar];refine ⟨((n+1:Nat):Int),?_⟩;rw[Vb _ _ _ hs hxy];simp
theorem TL:∀(q p:List Int),p.Pairwise (· ≤ ·)→p.length+q.length<10000000→∃j,AS (Rm 0 ((p.length+q.length:Nat):Int)) (p++q,(p.length:Int))=some (q.foldl GY p,j)
 | [],p,hs,hn=>by
   rw[Bx,H2];simp[Fq]
 | x::q,p,hs,hn=>by
   have hl:p.length+(x::q).length=(GY p x).length+q.length:=by rw[NJ];simp;omega
   rw[Bx,H2];have c1:decide ((p.length:Int)<((p.length+(x::q).length:Nat):Int))=true:=decide_eq_true (by simp only[List.length_cons];omega);obtain ⟨j,hj⟩:=WT [] p.length p x q rfl hs (by simp at hn;omega);have hw:IntKind.i64.wrap ((p.length:Int)+1)=((GY p x).length:Int):=by rw[IntKind.wrap_i64,NJ];simp at hn;omega
   rw[c1,cond_true,hj,Option.bind_some,Option.bind_some,At,hw,hl];obtain ⟨j2,hj2⟩:=TL q (GY p x) (WV p x hs) (by rw[NJ];simp at hn;omega);exact ⟨j2,by rw[hj2];rfl⟩
theorem WS (l:List Int) (hl:l.length<10000000):Qs l 0 (l.length:Int)=some (He l):=by
 unfold Qs;cases l with
 | nil=>
   rw[Bx,H2];simp[Fq,He,IntKind.wrap_i64]
 | cons x r=>
   have hw:IntKind.i64.wrap (0+1)=(([x]:List Int).length:Int):=by rw[IntKind.wrap_i64];simp
   obtain ⟨j,hj⟩:=TL r [x] (by simp) (by simp at hl ⊢;omega);rw[hw,show ((x::r).length:Int)=(([x]:List Int).length+r.length:Nat) by simp;omega,show x::r=[x]++r from rfl,hj];rfl
theorem Agr (n:Nat) (hn:n≤12):Aj Tryz.prog 154 [.p (.int .u64 n)] [] fun h r=>h=[]∧∃m:Int,r= .p (.int .i64 m):=by
 have c1:decide ((4294967296:Int)≤(n:Int))=false:=by simp;omega
 have c2:decide ((65536:Int)≤(n:Int))=false:=by simp;omega
 have c3:decide ((256:Int)≤(n:Int))=false:=by simp;omega
 have w1:IntKind.u8.wrap (n:Int)=(n:Int):=by simp only[IntKind.wrap,IntKind.signed,IntKind.bits];first | omega | (simp;omega)
 have r1:(0:Int)≤(n:Int)∧(n:Int)<256:=by omega
 refine Ak Tryz.func154 rfl Acn (by simp[Tryz.f154]) ?_;simp only[go_sem,c1,c2,c3,w1];refine ⟨by simp;omega,?_⟩;exact ⟨_,rfl⟩
theorem Apx (n:Nat) (hn:n≤12):Aj Tryz.prog 115 [.p (.int .u64 n)] [] fun h r=>h=[]∧∃m:Int,r= .p (.int .i64 m):=by
 refine Ak Tryz.func115 rfl Ad9 (by simp[Tryz.f115]) ?_;simp only[go_sem];refine Au (Agr n hn) ?_;rintro h' r ⟨rfl,m,rfl⟩;simp only[go_sem];exact ⟨m,rfl⟩
theorem Aav (l:List Int) (hl:l.length≤12) (m:Int):Aj Tryz.prog 114 [.ref 1000000 0 l.length l.length,.p (.int .i64 0),.p (.int .i64 l.length),.p (.int .i64 m)] [(1000000,.arr 3 1 (Ag l))]
   fun h r=>h=[(1000000,.arr 3 1 (Ag (He l)))]∧r= .BA []:=by
 have w1:IntKind.i64.wrap ((l.length:Int) - 0)=(l.length:Int):=by rw[IntKind.wrap_i64];omega
 have c1:decide ((l.length:Int)≤12)=true:=by simp;omega
 refine Ak Tryz.func114 rfl Ada (by simp[Tryz.f114]) ?_;simp only[go_sem];refine VM 1 ?_;rw[Are];refine ⟨_,Wk.refl _,?_⟩;simp only[go_sem,w1,c1,Ab];refine MW rfl rfl ?_;simp only[go_sem,HF];refine Sw (Abf l 0 l.length _ (WS l (by omega))) ?_;rintro h' r ⟨rfl,rfl⟩;simp only[go_sem];all_goals (try refine Bc ?_)
 all_goals (try simp only[go_sem])
theorem Afq (l:List Int) (hl:l.length≤12):Aj Tryz.prog 66 [.ref 1000000 0 l.length l.length] [(1000000,.arr 3 1 (Ag l))] fun h r=>h=[(1000000,.arr 3 1 (Ag (He l)))]∧r= .BA []:=by
 have w1:IntKind.u64.wrap (l.length:Int)=(l.length:Int):=by simp only[IntKind.wrap,IntKind.signed,IntKind.bits];first | omega | (simp;omega)
 refine Ak Tryz.func66 rfl Ain (by simp[Tryz.f66]) ?_;simp only[go_sem,Ab,w1];refine Au (Apx l.length hl) ?_;rintro h' r ⟨rfl,m,rfl⟩;simp only[go_sem,Ab];refine MW rfl rfl ?_;simp only[go_sem,HF];refine Sw (Aav l hl m) ?_;rintro h' r ⟨rfl,rfl⟩;simp only[go_sem];all_goals (try refine Bc ?_)
 all_goals (try simp only[go_sem])
theorem Afp (rows:List (List Int)) (i k:Nat) (hi:i<rows.length) (hl:(rows.getD i []).length≤12):
   Aj Tryz.prog 66 [.nr 1000000 i (rows.getD i []).length k] [(1000000,.BP 22 3 1 k (encR rows) none)] fun h r=>h=[(1000000,.BP 22 3 1 k (encR (rows.set i (He (rows.getD i [])))) none)]∧r= .BA []:=by
 have hg:(encR rows)[i]?=some (Ag (rows.getD i [])):=by simp[encR,List.getD,hi]
 refine (SB (ps:=[]) hg (Ab _).symm (Afq (rows.getD i []) hl) (R':=fun es r=>es=Ag (He (rows.getD i []))∧r= .BA []) ?_).mono ?_
 · rintro h' r ⟨rfl,rfl⟩;exact ⟨_,rfl,by rw[Ab,Aaa],.inl rfl,rfl,rfl⟩
 · rintro h' r ⟨LY,rfl,_,rfl,rfl⟩;exact ⟨by rw[Xz],rfl⟩
def nt0:Nt:=⟨[],[],[],[],0,0,0,0⟩
def Be.init:Be:=⟨[],[],[],4,2,1,8,[],[],[],0,[],false⟩
def Ux:Be→List Dc→Option (Int×Int)×Be
 | b,[]=>(none,b)
 | b,d::r=>if (b.GH d).1=0 then Ux (b.GH d).2 r else (some (d.line,(b.GH d).1),b)
def M4 (n:Int) (sp:List BY) (ba:List Int):List BY:=List.zipWith (fun s x=>{s with base:=n+x}) sp ba
def plB (sp:List BY) (p:Int×Int):Int:=(sp.getD p.1.toNat AP).base+p.2 - 1
def Be.net (b:Be):Nt:=⟨b.bl,b.nx.map He,M4 b.bl.length b.sp b.ba,b.pl.map (plB (M4 b.bl.length b.sp b.ba)),b.cq,b.ca,b.cd,b.cp⟩
def nbuildV (d:List Dc):Nt×Int×Int:=match Ux Be.init d with
 | (some (l,e),_)=>(nt0,l,e)
 | (none,b)=>if decide (b.bl.length=0)=true then (nt0,0,15) else if b.sp.any (·.A1)=false then (nt0,0,16) else (b.net,0,0)
def Be.Aw5 (b:Be):List D:=[.ref 901 0 b.bl.length b.bl.length,.BS 902 b.nx.length,.ref 903 0 b.sp.length b.sp.length,.cl [],.p (.int .i64 b.cq),.p (.int .i64 b.ca),.p (.int .i64 b.cd),.p (.int .i64 b.cp),
 .mv 14,.mv 15,.ref 906 0 b.ba.length b.ba.length,.p (.int .i64 b.sl),.ref 907 0 b.pl.length b.pl.length,.p (.bool b.cf)]
def Be.lh (b:Be) (k:Nat):Hp:=[(17,.box b.Aw5),(901,.arr 76 3 (Bi b.bl)),(902,.BP 22 3 1 k (encR b.nx) none),(903,.arr 68 6 (Bh b.sp)),
 (14,.mp (Il b.mb)),(15,.mp (Il b.ms)),(906,.arr 3 1 (Ag b.ba)),(907,.arr 120 2 (GF b.pl))]
theorem Be.NF (b:Be) (k:Nat):b.lh k=[(17,.box [.ref 901 0 b.bl.length b.bl.length,.BS 902 b.nx.length,.ref 903 0 b.sp.length b.sp.length,.cl [],.p (.int .i64 b.cq),.p (.int .i64 b.ca),.p (.int .i64 b.cd),.p (.int .i64 b.cp),
 .mv 14,.mv 15,.ref 906 0 b.ba.length b.ba.length,.p (.int .i64 b.sl),.ref 907 0 b.pl.length b.pl.length,.p (.bool b.cf)]),(901,.arr 76 3 (Bi b.bl)),(902,.BP 22 3 1 k (encR b.nx) none),(903,.arr 68 6 (Bh b.sp)),
 (14,.mp (Il b.mb)),(15,.mp (Il b.ms)),(906,.arr 3 1 (Ag b.ba)),(907,.arr 120 2 (GF b.pl))]:=rfl
theorem BI.init:BI Be.init:=by
 refine ⟨by simp[Be.init],rfl,fun x i h=>?_,fun x i h=>?_,fun i=>by simp[Be.init],by simp[Be.init],rfl,by simp[Be.init],by simp[Be.init],by simp[Be.init],by simp[Be.init],by simp[Be.init]⟩<;>simp[Be.init,Cz] at h
theorem Ae0 (l:List Dc) (i:Nat) (h:i<l.length):(BO l).getD i []=[.int .i64 (l.getD i Im).word,.int .i64 (l.getD i Im).line,.sl (AV (l.getD i Im).names),.sl (Ag (l.getD i Im).AJ)]:=by simp[BO,List.getD,h]
theorem Ar1 (l:List BY) (hl:l.length<10000000):LG l=some (l.any (·.A1)):=by
 have h:=OS (step:=Dy l) l.length (fun i=>(i:Int)) (Sum.inl (l.length:Int)) (fun i=>if (l.getD i AP).A1=true then some (Sum.inr (i:Int)) else none)
   (fun i hi _=>by
     have hx:A0 l (i:Int)=some (l.getD i AP):=by rw[KI];simp[List.getD,hi]
     rw[CW,decide_eq_true (by omega:(i:Int)<((l.length:Nat):Int)),cond_true,hx,Option.bind_some];simp only[CC,Option.bind_some];cases c:(l.getD i AP).A1
     · simp[As i (by omega)]
     · simp)
   (fun _=>by rw[CW,decide_eq_false (by omega:¬((l.length:Nat):Int)<((l.length:Nat):Int)),cond_false])
 unfold LG CR;rw[show ((0:Nat):Int)=0 from rfl] at h;rw[h];cases hf:(List.range l.length).findSome? (fun i=>if (l.getD i AP).A1=true then some (Sum.inr (i:Int):Int⊕Int) else none) with
 | none=>
   rw[List.findSome?_eq_none_iff] at hf;have:l.any (·.A1)=false:=by
     rw[List.any_eq_false];intro x hx;obtain ⟨i,hi,rfl⟩:=List.getElem_of_mem hx;have:=hf i (by simpa using hi);simp[List.getD,hi] at this
     simpa using this
   simp[this]
 | some e=>
   obtain ⟨i,hi,he⟩:=List.exists_of_findSome?_eq_some hf;simp only[List.mem_range] at hi;split at he
   · rename_i hd;cases he;have:l.any (·.A1)=true:=List.any_eq_true.2 ⟨l.getD i AP,A7 l i AP hi,hd⟩;simp[this]
   · cases he
def sB (n:Int) (sp:List BY) (ba:List Int) (i:Nat):List BY:=M4 n (sp.take i) (ba.take i)++sp.drop i
theorem UL (n:Int) (sp:List BY) (ba:List Int) (h:ba.length=sp.length):(M4 n sp ba).length=sp.length:=by simp[M4,h]
theorem Api (n:Int) (sp:List BY) (ba:List Int) (i:Nat) (h:ba.length=sp.length) (hi:i≤sp.length):(sB n sp ba i).length=sp.length:=by
 simp only[sB,List.length_append,List.length_drop];rw[UL _ _ _ (by simp[h]),List.length_take];omega
theorem Asc (n:Int) (sp:List BY) (ba:List Int) (i:Nat) (h:ba.length=sp.length) (hi:i<sp.length):(sB n sp ba i).getD i AP=sp.getD i AP:=by
 have hl:(M4 n (sp.take i) (ba.take i)).length=i:=by rw[UL _ _ _ (by simp[h]),List.length_take];omega
 simp only[sB,List.getD];rw[List.getElem?_append_right (by omega),hl,List.getElem?_drop];simp
theorem Aph (n:Int) (sp:List BY) (ba:List Int) (i:Nat) (h:ba.length=sp.length) (hi:i<sp.length):(sB n sp ba i).set i {sp.getD i AP with base:=n+ba.getD i 0}=sB n sp ba (i+1):=by
 have hl:(M4 n (sp.take i) (ba.take i)).length=i:=by rw[UL _ _ _ (by simp[h]),List.length_take];omega
 have hd:sp.drop i=sp.getD i AP::sp.drop (i+1):=by rw[List.drop_eq_getElem_cons hi];simp[List.getD,hi]
 have ht:sp.take (i+1)=sp.take i++[sp.getD i AP]:=by rw[List.take_add_one];simp[List.getD,hi]
 have hb:ba.take (i+1)=ba.take i++[ba.getD i 0]:=by rw[List.take_add_one];simp[List.getD,h,hi]
 unfold sB;rw[List.set_append_right _ _ (by omega),hl,Nat.sub_self,hd,List.set_cons_zero,ht,hb];unfold M4;rw[List.zipWith_append (by simp[h])];simp
def smallD (d:List Dc):Prop:=d.length<10000000∧∀x∈d,x.names.length≤10000000∧x.AJ.length≤10000000
set_option maxHeartbeats 4000000 in
theorem Ab1 (d:List Dc) (hd:smallD d):Aj Tryz.prog 31 [.p (.sl (BO d))] [] fun h r=>h=[]∧r= .BA [.agg (nbuildV d).1.cs,.p (.int .i64 (nbuildV d).2.1),.p (.int .i64 (nbuildV d).2.2)]:=by
  obtain ⟨SG,Hw⟩:=hd;refine Ak Tryz.func31 rfl Aj9 (by simp[Tryz.f31]) ?_;simp only[go_sem,KK.fit];refine Ao (fun q:Nat×Be×Nat=>⟨[(2,.ptr 2 0),(5,.ptr 17 0),(23,.p (.sl (BO d))),(24,.p (.int .i64 d.length)),(25,.p (.int .i64 (q.1:Nat)))],(2,.box [.cl [],.cl [],.cl [],.cl [],.p (.int .i64 0),.p (.int .i64 0),.p (.int .i64 0),.p (.int .i64 0)])::q.2.1.lh q.2.2,139⟩)
    (fun q=>q.1≤d.length∧BI q.2.1∧Ux Be.init d=Ux q.2.1 (d.drop q.1)) (fun q=>d.length - q.1) (0,Be.init,0) ⟨Nat.zero_le _,BI.init,by simp⟩
    ((Wk.E3 (id:=17) (j:=0) (q:=901) (sz:=3) 76 rfl rfl rfl (by decide)).trans ((Wk.Aly (id:=17) (j:=1) (q:=902) (sz:=1) 22 3 rfl rfl rfl (by decide)).trans
      ((Wk.E3 (id:=17) (j:=2) (q:=903) (sz:=6) 68 rfl rfl rfl (by decide)).trans ((Wk.E3 (id:=17) (j:=10) (q:=906) (sz:=1) 3 rfl rfl rfl (by decide)).trans
      ((Wk.E3 (id:=17) (j:=12) (q:=907) (sz:=2) 120 rfl rfl rfl (by decide)).trans (Wk.forget (by simp[Le,AG,Av,get,Aa,Ac,Ad,D.ids,Ai,AO.ids,Ae,base,Be.NF,Be.init,Bi,Bh,Ag,encR,GF,Il,A8]))))))) ?_
  rintro ⟨i,b,k⟩ n ⟨hi,hB,he⟩ ih;dsimp only at hi hB he;simp only[go_sem,Be.NF];refine AK (fun h2=>?_) (fun h2=>?_)
  · have AL:i<d.length:=by simp at h2;omega
    have hw:=As i (by omega);have hg:=Ae0 d i AL;have r1:(0:Int)≤(i:Int)∧(i:Int)<(d.length:Int):=by omega
    have S1:d.drop i=d.getD i Im::d.drop (i+1):=by
      rw[List.drop_eq_getElem_cons AL];simp[List.getD,AL]
    have hx:=Hw (d.getD i Im) (A7 d i Im AL);rw[S1] at he;generalize d.getD i Im=x at*;simp only[go_sem,Be.NF,A8,Int.toNat_natCast,r1,hg];refine Au (Ar5 b k x hB hx) ?_;rintro h' r ⟨k2,rfl,rfl⟩;have hB2:=hB.add x;simp only[Ux] at he;cases c1:decide ((b.GH x).1=0)
    · have c1':¬(b.GH x).1=0:=of_decide_eq_false c1;rw[if_neg c1'] at he;simp only[go_sem,Be.DB (b.GH x).2 k2,c1];refine BB [(7,.box [.p (.int .i64 x.word),.p (.int .i64 x.line),.p (.sl (AV x.names)),.p (.sl (Ag x.AJ))])] mixed (p:=[(0,0),(1,0),(2,0),(3,0),(4,2),(5,0),(6,0)]) (by kernel_rfl) (by simp[Av,get]) ?_;simp only[go_sem];refine Ah ?_;simp only[go_sem];unfold nbuildV;rw[he];rfl
    · have c1':(b.GH x).1=0:=of_decide_eq_true c1;rw[if_pos c1'] at he;simp only[go_sem,Be.DB (b.GH x).2 k2,c1,hw];refine ih (i+1,(b.GH x).2,k2) _ ⟨AL,hB2,he⟩ (by simp;omega) ?_
      (refine Wk.forget ?_;simp[Le,AG,Av,get,Aa,Ac,Ad,D.ids,Ai,AO.ids,Ae,base,Be.NF];done)
  · have:i=d.length:=by simp at h2;omega
    subst this;rw[List.drop_length] at he;simp only[Ux] at he;have hv:nbuildV d=if decide (b.bl.length=0)=true then (nt0,0,15) else if b.sp.any (·.A1)=false then (nt0,0,16) else (b.net,0,0):=by
      unfold nbuildV;rw[he]
    rw[hv];have hc:decide ((b.bl.length:Int)=0)=decide (b.bl.length=0):=by
      by_cases h:b.bl.length=0<;>simp[h]
    cases c1:decide (b.bl.length=0);rotate_left
    · simp only[go_sem,Ay,hc,c1];refine Ah ?_;simp only[go_sem];rfl
    simp only[go_sem,Ay,hc,c1];refine Pr rfl rfl (XU b.sp _ (Ar1 b.sp (by have:=hB.ns;omega))) (by simp[HI,P8,ev,get,List.take_of_length_le,ZB]) ?_;rintro h' r ⟨rfl,rfl⟩;refine ⟨rfl,rfl,?_⟩;cases c2:b.sp.any (·.A1)
    · simp only[go_sem,c2];refine Ah ?_;simp only[go_sem];rfl
    simp only[go_sem,c2];have hnb:=hB.nb;have hns:=hB.ns;have hba:=hB.nba;refine Ao (fun i:Nat=>⟨[(2,.ptr 2 0),(5,.ptr 17 0),(60,.p (.int .i64 b.sp.length)),(61,.p (.int .i64 (i:Nat)))],(2,.box [.cl [],.cl [],.cl [],.cl [],.p (.int .i64 0),.p (.int .i64 0),.p (.int .i64 0),.p (.int .i64 0)])::({b with sp:=sB b.bl.length b.sp b.ba i}:Be).lh k,139⟩)
      (fun i=>i≤b.sp.length) (fun i=>b.sp.length - i) 0 (Nat.zero_le _) (Wk.forget (by simp[Le,AG,Av,get,Aa,Ac,Ad,D.ids,Ai,AO.ids,Ae,base,Be.NF,sB,M4,C5])) ?_
    rintro i m hi Fi;have hl:=Api b.bl.length b.sp b.ba i hba hi;simp only[go_sem,Be.NF,hl];refine AK (fun h3=>?_) (fun h3=>?_)
    · have AL:i<b.sp.length:=by simp at h3;omega
      have hw:=As i (by omega);have g1:=CG (sB b.bl.length b.sp b.ba i) i (by omega);rw[Asc _ _ _ _ hba AL] at g1;have g2:=AD b.ba i (by omega);have hbb:=hB.bas (b.ba.getD i 0) (A7 b.ba i 0 (by omega));have w1:IntKind.i64.wrap ((b.bl.length:Int)+b.ba.getD i 0)=(b.bl.length:Int)+b.ba.getD i 0:=by rw[IntKind.wrap_i64];omega
      have r1:(0:Int)≤(i:Int)∧(i:Int)<(b.sp.length:Int):=by omega
      have hs:=Aph b.bl.length b.sp b.ba i hba AL;simp only[go_sem,Be.NF,hl];refine AY mixed (p:=[(0,0),(1,0),(2,0),(3,0),(4,0),(5,0),(6,0),(7,0),(8,0),(9,0),(10,0),(11,0),(12,0),(13,0),(14,0),(15,0),(16,0),(17,0),(18,0),(19,0),(20,0),(21,0),(22,3)]) (by kernel_rfl) (by simp[Av,get]) ?_;simp only[go_sem,hba,r1,Ab,Ay,C5,Int.toNat_natCast,g1,g2,w1,hl,hw];refine Fi (i+1) _ AL (by omega) ?_;rw[←hs]
      (refine Wk.forget ?_;simp[Le,AG,Av,get,Aa,Ac,Ad,D.ids,Ai,AO.ids,Ae,base,Be.NF,Pf,C5,hl,hba];done)
    obtain rfl:i=b.sp.length:=by simp at h3;omega
    have hsB:sB b.bl.length b.sp b.ba b.sp.length=M4 b.bl.length b.sp b.ba:=by
      unfold sB;rw[List.drop_length,List.append_nil,List.take_length,←hba,List.take_length]
    rw[hsB] at hl ⊢;have KP:=hB.np;simp only[go_sem,Be.NF,CU];refine Ao (fun i:Nat=>⟨[(2,.ptr 2 0),(5,.ptr 17 0),(90,.ref 907 0 b.pl.length b.pl.length),(91,.p (.int .i64 b.pl.length)),(92,.p (.int .i64 (i:Nat)))],[(2,.box [.cl [],.cl [],.cl [],.cl [],.p (.int .i64 0),.p (.int .i64 0),.p (.int .i64 0),.p (.int .i64 0)]),
        (17,.box [.ref 901 0 b.bl.length b.bl.length,.BS 902 b.nx.length,.ref 903 0 b.sp.length b.sp.length,.ref 904 0 i i,.p (.int .i64 b.cq),.p (.int .i64 b.ca),.p (.int .i64 b.cd),.p (.int .i64 b.cp),
          .mv 14,.mv 15,.ref 906 0 b.ba.length b.ba.length,.p (.int .i64 b.sl),.ref 907 0 b.pl.length b.pl.length,.p (.bool b.cf)]),(901,.arr 76 3 (Bi b.bl)),(902,.BP 22 3 1 k (encR b.nx) none),(903,.arr 68 6 (Bh (M4 b.bl.length b.sp b.ba))),
        (14,.mp (Il b.mb)),(15,.mp (Il b.ms)),(906,.arr 3 1 (Ag b.ba)),(904,.arr 3 1 (Ag ((b.pl.take i).map (plB (M4 b.bl.length b.sp b.ba))))),(907,.arr 120 2 (GF b.pl))],139⟩)
      (fun i=>i≤b.pl.length) (fun i=>b.pl.length - i) 0 (Nat.zero_le _) ((Wk.E3 (id:=17) (j:=3) (q:=904) (sz:=1) 3 rfl rfl rfl (by decide)).trans (Wk.forget (by simp[Le,AG,Av,get,Aa,Ac,Ad,D.ids,Ai,AO.ids,Ae,base,Ag,CU,hl]))) ?_
    rintro i m hi ih3;simp only[go_sem];refine AK (fun h3=>?_) (fun h3=>?_)
    · have AL:i<b.pl.length:=by simp at h3;omega
      have hw:=As i (by omega);have g1:(GF b.pl).getD i []=[.int .i64 (b.pl.getD i (0,0)).1,.int .i64 (b.pl.getD i (0,0)).2]:=by simp[GF,List.getD,AL]
      have r1:(0:Int)≤(i:Int)∧(i:Int)<(b.pl.length:Int):=by omega
      obtain ⟨⟨j,hj,hjl⟩,Jq⟩:=hB.pls (b.pl.getD i (0,0)) (A7 b.pl i (0,0) AL);have r2:(0:Int)≤(j:Int)∧(j:Int)<(b.sp.length:Int):=by omega
      have g2:=CG (M4 b.bl.length b.sp b.ba) j (by omega);have hbs:0≤((M4 b.bl.length b.sp b.ba).getD j AP).base∧((M4 b.bl.length b.sp b.ba).getD j AP).base≤48:=by
        have:=hB.bas (b.ba.getD j 0) (A7 b.ba j 0 (by omega));have e:((M4 b.bl.length b.sp b.ba).getD j AP).base=b.bl.length+b.ba.getD j 0:=by
          simp[M4,List.getD,List.getElem?_zipWith,hjl,show j<b.ba.length by omega]
        omega
      have hpl:plB (M4 b.bl.length b.sp b.ba) (b.pl.getD i (0,0))=((M4 b.bl.length b.sp b.ba).getD j AP).base+(b.pl.getD i (0,0)).2 - 1:=by
        unfold plB;rw[hj];rfl
      have htk:(b.pl.take (i+1)).map (plB (M4 b.bl.length b.sp b.ba))=(b.pl.take i).map (plB (M4 b.bl.length b.sp b.ba))++[plB (M4 b.bl.length b.sp b.ba) (b.pl.getD i (0,0))]:=by
        rw[List.take_add_one,List.map_append];congr 1;simp[List.getD,AL]
      rw[hj] at g1;generalize (M4 b.bl.length b.sp b.ba).getD j AP=sj at*;generalize b.pl.getD i (0,0)=pi at*;have w1:IntKind.i64.wrap (IntKind.i64.wrap (sj.base+pi.2) - 1)=sj.base+pi.2 - 1:=by rw[IntKind.wrap_i64,IntKind.wrap_i64];omega
      simp only[go_sem,CU,r1,Int.toNat_natCast,g1];refine BB [(17,.box [.ref 901 0 b.bl.length b.bl.length,.BS 902 b.nx.length,.ref 903 0 b.sp.length b.sp.length,.ref 904 0 i i,.p (.int .i64 b.cq),.p (.int .i64 b.ca),.p (.int .i64 b.cd),.p (.int .i64 b.cp),
          .mv 14,.mv 15,.ref 906 0 b.ba.length b.ba.length,.p (.int .i64 b.sl),.ref 907 0 b.pl.length b.pl.length,.p (.bool b.cf)]),(11,.box [.p (.int .i64 j),.p (.int .i64 pi.2)]),(903,.arr 68 6 (Bh (M4 b.bl.length b.sp b.ba)))] mixed (p:=[(0,0),(1,0),(2,0),(3,0),(4,0),(5,0),(6,0),(7,0),(8,0),(9,0),(10,0),(11,0),(12,0),(13,0),(14,0),(15,0),(16,0),(17,0),(18,0),(19,0),(20,1),(21,2),(22,0),(23,0),(24,0),(25,3)]) (by kernel_rfl) (by simp[Av,get]) ?_
      simp only[go_sem,hl,r2,Int.toNat_natCast,C5,g2,w1,Ab,List.length_map,List.length_take,Nat.min_eq_left hi];refine ⟨⟨Cf _ _ rfl,by omega⟩,?_⟩;simp only[go_sem,hw];refine ih3 (i+1) _ AL (by omega) ?_;rw[htk,hpl]
      (refine Wk.forget ?_;simp[Le,AG,Av,get,Aa,Ac,Ad,D.ids,Ai,AO.ids,Ae,base,Cq,Nat.min_eq_left hi];done)
    obtain rfl:i=b.pl.length:=by simp at h3;omega
    rw[List.take_length];have hnn:=hB.nn;simp only[go_sem,F9];refine Ao (fun q:Nat×List (List Int)=>⟨[(2,.ptr 2 0),(5,.ptr 17 0),(126,.BS 902 b.nx.length),(127,.p (.int .i64 b.nx.length)),(128,.p (.int .i64 (q.1:Nat)))],[(2,.box [.cl [],.cl [],.cl [],.cl [],.p (.int .i64 0),.p (.int .i64 0),.p (.int .i64 0),.p (.int .i64 0)]),
        (17,.box [.ref 901 0 b.bl.length b.bl.length,.BS 902 b.nx.length,.ref 903 0 b.sp.length b.sp.length,.ref 904 0 b.pl.length b.pl.length,.p (.int .i64 b.cq),.p (.int .i64 b.ca),.p (.int .i64 b.cd),.p (.int .i64 b.cp),
          .mv 14,.mv 15,.ref 906 0 b.ba.length b.ba.length,.p (.int .i64 b.sl),.ref 907 0 b.pl.length b.pl.length,.p (.bool b.cf)]),(901,.arr 76 3 (Bi b.bl)),(902,.BP 22 3 1 k (encR q.2) none),(903,.arr 68 6 (Bh (M4 b.bl.length b.sp b.ba))),
        (14,.mp (Il b.mb)),(15,.mp (Il b.ms)),(906,.arr 3 1 (Ag b.ba)),(904,.arr 3 1 (Ag (b.pl.map (plB (M4 b.bl.length b.sp b.ba))))),(907,.arr 120 2 (GF b.pl))],139⟩)
      (fun q=>q.1≤b.nx.length∧q.2=(b.nx.take q.1).map He++b.nx.drop q.1) (fun q=>b.nx.length - q.1) (0,b.nx) ⟨Nat.zero_le _,by simp⟩ (Wk.forget (by simp[Le,AG,Av,get,Aa,Ac,Ad,D.ids,Ai,AO.ids,Ae,base])) ?_
    rintro ⟨i,rows⟩ m ⟨hi,hrw⟩ TM;dsimp only at hi hrw;have Yo:rows.length=b.nx.length:=by rw[hrw];simp;omega
    simp only[go_sem];refine AK (fun h3=>?_) (fun h3=>?_)
    · have AL:i<b.nx.length:=by simp at h3;omega
      have hw:=As i (by omega);have r1:(0:Int)≤(i:Int)∧(i:Int)<(b.nx.length:Int):=by omega
      have G4:rows.getD i []=b.nx.getD i []:=by
        rw[hrw];simp only[List.getD];rw[List.getElem?_append_right (by simp;omega),List.getElem?_drop];simp[Nat.min_eq_left hi]
      have Da:rows.set i (He (rows.getD i []))=(b.nx.take (i+1)).map He++b.nx.drop (i+1):=by
        rw[G4,hrw,List.set_append_right _ _ (by simp;omega)];have S1:b.nx.drop i=b.nx.getD i []::b.nx.drop (i+1):=by rw[List.drop_eq_getElem_cons AL];simp[List.getD,AL]
        rw[S1,show i - ((b.nx.take i).map He).length=0 by simp;omega,List.set_cons_zero,List.take_add_one,List.map_append];simp[List.getD,AL]
      have Bj:=hB.row i;simp only[go_sem,r1,Int.toNat_natCast,F9,K4,Ab,Yo];refine MW rfl rfl ?_;simp only[go_sem,HF];refine Sw (Afp rows i k (by omega) (by rw[G4];omega)) ?_;rintro h' r ⟨rfl,rfl⟩;simp only[go_sem,hw];refine TM (i+1,_) _ ⟨AL,Da⟩ (by simp;omega) ?_
      (refine Wk.forget ?_;simp[Le,AG,Av,get,Aa,Ac,Ad,D.ids,Ai,AO.ids,Ae,base];done)
    obtain rfl:i=b.nx.length:=by simp at h3;omega
    rw[List.take_length,List.drop_length,List.append_nil] at hrw;subst hrw;simp only[go_sem];refine Ah ?_;simp only[go_sem,Ay,C5,Ab,hl,F9,List.length_map];have e1:List.take b.sp.length (Bh (M4 b.bl.length b.sp b.ba))=Bh (M4 b.bl.length b.sp b.ba):=List.take_of_length_le (by rw[C5,hl];exact Nat.le_refl _);have e2:List.take b.pl.length (Ag (b.pl.map (plB (M4 b.bl.length b.sp b.ba))))=Ag (b.pl.map (plB (M4 b.bl.length b.sp b.ba))):=List.take_of_length_le (by simp[Ag]);have e3:(encR (b.nx.map He)).map (fun r=>[Pd.sl r])=AM (b.nx.map He):=by simp[encR,AM]
    rw[e1,e2,e3];simp[c1];rfl
theorem Nf (a lo hi:Int):A2 a lo hi=some (decide (lo≤a)&&decide (a≤hi)):=by
 unfold A2;cases decide (lo≤a)<;>rfl
theorem Aun:∀b1 b2 b3 b4:Bool,cond b1 (cond b2 (cond b3 (some b4) (some false)) (some false)) (some false)=some (b1&&(b2&&(b3&&b4))):=by decide
theorem SK (q a d p:Int):Ci ⟨q,a,d,p⟩=some (decide (JD q a d p)):=by
 unfold Ci;simp only[Nf,Option.bind_some];rw[Aun]
 congr 1
 rw[Bool.eq_iff_iff];simp only[Bool.and_eq_true,decide_eq_true_eq];exact ⟨fun ⟨⟨a1,a2⟩,⟨b1,b2⟩,⟨c1,c2⟩,d1,d2⟩=>⟨a1,a2,b1,b2,c1,c2,d1,d2⟩,fun ⟨a1,a2,b1,b2,c1,c2,d1,d2⟩=>⟨⟨a1,a2⟩,⟨b1,b2⟩,⟨c1,c2⟩,d1,d2⟩⟩
def NG (l:List Int) (i:Nat):Int:=if i=0 then -1 else l.getD (i - 1) 0
theorem Wb (l:List Int) (i nb:Nat) (hl:l.length≤10000000):Cb l (i:Int) (nb:Int)=some (decide (Gn nb i l∧l.length≤4)):=by
 have h:=G3 (step:=D1 l (i:Int) (nb:Int)) l.length (fun k=>((k:Int),NG l k)) (Sum.inl ((l.length:Int),NG l l.length)) (Sum.inr false) (fun k=>decide (Hk nb i l k))
   (fun k hk hj=>by
     rw[Dh,D2 hk,cond_true,AU l k 0 hk,Option.bind_some];have hw:=AZ (show k<10000000 by omega);have At7:0<k→0≤l.getD (k - 1) 0:=fun h=>by have:=of_decide_eq_true (hj (k - 1) (by omega));exact this.1
     have RD:NG l (k+1)=l.getD k 0:=by unfold NG;rw[if_neg (by omega)];rfl
     by_cases c1:l.getD k 0≤NG l k
     · rw[decide_eq_true c1,cond_true,if_neg];intro h;have:=of_decide_eq_true h;unfold NG at c1;split at c1
       · have:=this.1;omega
       · have:=this.2.2.2 (by omega);omega
     · rw[decide_eq_false c1,cond_false];by_cases c2:(nb:Int)≤l.getD k 0
       · rw[decide_eq_true c2,cond_true,if_neg];intro h;have:=(of_decide_eq_true h).2.1;omega
       · rw[decide_eq_false c2,cond_false];by_cases c3:l.getD k 0=(i:Int)
         · rw[decide_eq_true c3,cond_true,if_neg];intro h;exact (of_decide_eq_true h).2.2.1 c3
         · rw[decide_eq_false c3,cond_false,if_pos,hw,RD];refine decide_eq_true ⟨?_,by omega,c3,fun h=>?_⟩
           · unfold NG at c1;split at c1
             · omega
             · have:=At7 (by omega);omega
           · unfold NG at c1;rw[if_neg (by omega)] at c1;omega)
   (fun _=>by rw[Dh,Fj,cond_false])
 unfold Cb;rw[show ((0:Int),(-1:Int))=(((0:Nat):Int),NG l 0) from rfl,h,Option.bind_some];by_cases g:∀j,j<l.length→decide (Hk nb i l j)=true
 · rw[if_pos g];simp only
   congr 1
   have hr:Gn nb i l:=fun k hk=>of_decide_eq_true (g k hk);by_cases h4:l.length≤4
   · rw[decide_eq_true (show (l.length:Int)≤4 by omega),decide_eq_true ⟨hr,h4⟩]
   · rw[decide_eq_false (show ¬(l.length:Int)≤4 by omega),decide_eq_false (fun h=>h4 h.2)]
 · rw[if_neg g];simp only
   congr 1
   symm
   exact decide_eq_false fun h=>g fun j hj=>decide_eq_true (h.1 j hj)
def Eh:List (List UInt8×Int)→List (List UInt8)→List (List UInt8×Int)
 | m,[]=>m
 | m,x::r=>Eh (FD m x (IntKind.i64.wrap ((Cz m x).getD 0+1))) r
theorem Up (m:List (List UInt8×Int)) (l:List (List UInt8)) (x:List UInt8):Eh m (l++[x])=FD (Eh m l) x (IntKind.i64.wrap ((Cz (Eh m l) x).getD 0+1)):=by
 induction l generalizing m with
 | nil=>rfl
 | cons y r ih=>simp only[List.cons_append,Eh];exact ih _
theorem Ak6 (m:List (List UInt8×Int)) (a b:List (List UInt8)):Eh m (a++b)=Eh (Eh m a) b:=by
 induction a generalizing m with
 | nil=>rfl
 | cons y r ih=>simp only[List.cons_append,Eh];exact ih _
theorem Aap (m:List (List UInt8×Int)) (k:List UInt8) (v:Int):(FD m k v).map (·.1)=if k∈m.map (·.1) then m.map (·.1) else m.map (·.1)++[k]:=by
 induction m with
 | nil=>simp[FD]
 | cons p r ih=>
   simp only[FD];by_cases h:p.1=k
   · simp[h]
   · rw[if_neg h,List.map_cons,ih];by_cases h2:k∈r.map (·.1)
     · rw[if_pos h2,if_pos (by simp only[List.map_cons,List.mem_cons];exact .inr h2)];rfl
     · rw[if_neg h2,if_neg (by simp only[List.map_cons,List.mem_cons,not_or];exact ⟨Ne.symm h,h2⟩)];rfl
theorem Uq:∀(l:List (List UInt8)) (m:List (List UInt8×Int)),(m.map (·.1)).Nodup→((Eh m l).map (·.1)).Nodup∧(Eh m l).length≤m.length+l.length∧((Eh m l).length=m.length+l.length↔(m.map (·.1)++l).Nodup)
 | [],m,h=>by simp[Eh,h]
 | x::r,m,h=>by
   simp only[Eh];have hk:=Aap m x (IntKind.i64.wrap ((Cz m x).getD 0+1));have hlen:(FD m x (IntKind.i64.wrap ((Cz m x).getD 0+1))).length=if x∈m.map (·.1) then m.length else m.length+1:=by
     have:=congrArg List.length hk;rw[List.length_map] at this;rw[this];split<;>simp
   have hnd:((FD m x (IntKind.i64.wrap ((Cz m x).getD 0+1))).map (·.1)).Nodup:=by
     rw[hk];split
     · exact h
     · rename_i hx;rw[List.nodup_append];exact ⟨h,by simp,fun a ha b hb=>by simp at hb;subst hb;intro e;subst e;exact hx ha⟩
   obtain ⟨h1,h2,h3⟩:=Uq r _ hnd;refine ⟨h1,by rw[hlen] at h2;split at h2<;>simp<;>omega,?_⟩;by_cases hx:x∈m.map (·.1)
   · rw[hlen,if_pos hx] at h2;constructor
     · intro he;simp at he;omega
     · intro hn;rw[List.nodup_append] at hn;exact (hn.2.2 x hx x (by simp) rfl).elim
   · rw[hlen,if_neg hx,hk,if_neg hx] at h3;rw[show m.length+(x::r).length=m.length+1+r.length by simp;omega,h3,List.append_assoc];rfl
theorem DV (p:Int×Bool) (r:List (Int×Bool)) (x:Int):GD (p::r) x=if p.1=x then some p.2 else GD r x:=by
 unfold GD;rw[List.find?_cons];by_cases h:p.1=x
 · simp[h]
 · rw[if_neg h,beq_eq_false_iff_ne.2 h]
theorem Tr (p:Int×Bool) (r:List (Int×Bool)) (k:Int) (v:Bool):Nv (p::r) k v=if p.1=k then (k,v)::r else p::Nv r k v:=rfl
theorem Ul (p:Int×Bool) (r:List (Int×Bool)) (k:Int):Ik (p::r) k=if p.1=k then r else p::Ik r k:=rfl
theorem Abz (m:List (Int×Bool)) (k:Int) (v:Bool) (x:Int):GD (Nv m k v) x=if x=k then some v else GD m x:=by
 induction m with
 | nil=>
   have:Nv [] k v=[(k,v)]:=rfl;rw[this,DV];by_cases h:x=k
   · rw[if_pos h,if_pos h.symm]
   · rw[if_neg h,if_neg (Ne.symm h)]
 | cons p r ih=>
   rw[Tr,DV];by_cases h:p.1=k
   · rw[if_pos h,DV];by_cases h2:x=k
     · rw[if_pos h2,if_pos h2.symm]
     · rw[if_neg h2,if_neg (Ne.symm h2),if_neg (fun e=>h2 (by rw[←e,←h]))]
   · rw[if_neg h,DV,ih];by_cases h2:p.1=x
     · rw[if_pos h2,if_pos h2,if_neg (fun e=>h (by rw[h2,e]))]
     · rw[if_neg h2,if_neg h2]
theorem Aar (m:List (Int×Bool)) (k:Int) (v:Bool):(Nv m k v).map (·.1)=if k∈m.map (·.1) then m.map (·.1) else m.map (·.1)++[k]:=by
 induction m with
 | nil=>simp[Nv]
 | cons p r ih=>
   rw[Tr];by_cases h:p.1=k
   · simp[h]
   · rw[if_neg h,List.map_cons,ih];by_cases h2:k∈r.map (·.1)
     · rw[if_pos h2,if_pos (by simp only[List.map_cons,List.mem_cons];exact .inr h2)];rfl
     · rw[if_neg h2,if_neg (by simp only[List.map_cons,List.mem_cons,not_or];exact ⟨Ne.symm h,h2⟩)];rfl
theorem Ajx (m:List (Int×Bool)) (k x:Int) (h:x∈(Ik m k).map (·.1)):x∈m.map (·.1):=by
 induction m with
 | nil=>exact h
 | cons p r ih=>
   rw[Ul] at h;split at h
   · simp only[List.map_cons,List.mem_cons];exact .inr h
   · simp only[List.map_cons,List.mem_cons] at h ⊢;exact h.imp id ih
theorem Ac0 (m:List (Int×Bool)) (x:Int):GD m x=none↔x∉m.map (·.1):=by
 induction m with
 | nil=>simp[GD]
 | cons p r ih=>
   rw[DV];by_cases h:p.1=x
   · simp[h]
   · rw[if_neg h,ih];simp[Ne.symm h]
theorem XJ (m:List (Int×Bool)) (k x:Int) (hn:(m.map (·.1)).Nodup):((Ik m k).map (·.1)).Nodup∧GD (Ik m k) x=if x=k then none else GD m x:=by
 induction m with
 | nil=>exact ⟨hn,by simp[Ik,GD]⟩
 | cons p r ih=>
   simp only[List.map_cons,List.nodup_cons] at hn;obtain ⟨h1,h2⟩:=ih hn.2;rw[Ul];by_cases h:p.1=k
   · rw[if_pos h];refine ⟨hn.2,?_⟩;by_cases hx:x=k
     · rw[if_pos hx,Ac0,hx,←h];exact hn.1
     · rw[if_neg hx,DV,if_neg (fun e=>hx (by rw[←e,h]))]
   · rw[if_neg h];refine ⟨by simp only[List.map_cons,List.nodup_cons];exact ⟨fun hm=>hn.1 (Ajx r k _ hm),h1⟩,?_⟩;rw[DV,DV,h2];by_cases hp:p.1=x
     · rw[if_pos hp,if_pos hp,if_neg (fun e=>h (by rw[hp,e]))]
     · rw[if_neg hp,if_neg hp]
def MB (m:List (Int×Bool)) (f:Int→Bool):Prop:=(m.map (·.1)).Nodup∧∀x,GD m x=if f x=true then some true else none
theorem MB.nil:MB [] (fun _=>false):=⟨by simp,fun x=>by simp[GD]⟩
theorem MB.put {m:List (Int×Bool)} {f:Int→Bool} (h:MB m f) (k:Int):MB (Nv m k true) (fun x=>f x||decide (x=k)):=by
 refine ⟨?_,fun x=>?_⟩
 · rw[Aar];split
   · exact h.1
   · rename_i hx;rw[List.nodup_append];exact ⟨h.1,by simp,fun a ha b hb=>by simp at hb;subst hb;intro e;subst e;exact hx ha⟩
 · rw[Abz,h.2];by_cases hx:x=k
   · simp[hx]
   · simp[hx]
theorem MB.del {m:List (Int×Bool)} {f:Int→Bool} (h:MB m f) (k:Int):MB (Ik m k) (fun x=>f x&&!decide (x=k)):=by
 refine ⟨(XJ m k 0 h.1).1,fun x=>?_⟩;rw[(XJ m k x h.1).2,h.2];by_cases hx:x=k
 · simp[hx]
 · simp[hx]
theorem MB.pos {m:List (Int×Bool)} {f:Int→Bool} (h:MB m f):0<m.length↔∃x,f x=true:=by
 constructor
 · intro hm;obtain ⟨p,r,rfl⟩:∃p r,m=p::r:=by cases m with | nil=>simp at hm | cons p r=>exact ⟨p,r,rfl⟩
   refine ⟨p.1,?_⟩;have:=h.2 p.1;rw[DV,if_pos rfl] at this;by_cases hf:f p.1=true
   · exact hf
   · rw[if_neg hf] at this;cases this
 · rintro ⟨x,hx⟩;cases m with
   | nil=>have:=h.2 x;rw[if_pos hx] at this;simp[GD] at this
   | cons p r=>simp
theorem MB.congr {m:List (Int×Bool)} {f g:Int→Bool} (h:MB m f) (e:∀x,f x=g x):MB m g:=⟨h.1,fun x=>by rw[←e];exact h.2 x⟩
def UR (m:List (Int×Bool)) (b:Int):Nat→List (Int×Bool)
 | 0=>m
 | n+1=>Nv (UR m b n) (b+n) true
theorem MB.UR {m:List (Int×Bool)} {f:Int→Bool} (h:MB m f) (b:Int):∀n:Nat,MB (UR m b n) (fun x=>f x||(decide (b≤x)&&decide (x<b+n)))
 | 0=>h.congr fun x=>by
   have:(decide (b≤x)&&decide (x<b+((0:Nat):Int)))=false:=by
     rw[Bool.and_eq_false_iff];by_cases h:b≤x
     · exact .inr (decide_eq_false (by omega))
     · exact .inl (decide_eq_false h)
   rw[this,Bool.or_false]
 | n+1=>(MB.put (h.UR b n) (b+n)).congr fun x=>by
   rw[Bool.or_assoc]
   congr 1
   rw[Bool.eq_iff_iff];simp only[Bool.or_eq_true,Bool.and_eq_true,decide_eq_true_eq];omega
def JC (m:List (Int×Bool)) (s:BY):List (Int×Bool):=if s.A1=true then UR m s.base s.AH.toNat else m
theorem MB.dep {m:List (Int×Bool)} {f:Int→Bool} (h:MB m f) (s:BY) (hs:0≤s.AH):MB (JC m s) (fun x=>f x||Lt x s):=by
 unfold JC Lt;cases s.A1
 · exact h.congr fun x=>by simp
 · refine (h.UR s.base s.AH.toNat).congr fun x=>?_;rw[Int.toNat_of_nonneg hs];simp
theorem MB.Aul {m:List (Int×Bool)} {f:Int→Bool}:∀(l:List BY) (h:MB m f),(∀s∈l,0≤s.AH)→MB (l.foldl JC m) (fun x=>f x||l.any (Lt x))
 | [],h,_=>h.congr fun x=>by simp
 | s::r,h,hs=>by
   rw[List.foldl_cons];exact (MB.Aul r (h.dep s (hs s (by simp))) (fun t ht=>hs t (by simp[ht]))).congr fun x=>by simp[Bool.or_assoc]
theorem Alk (s:BY) (m:List (Int×Bool)) (hs:1≤s.AH∧s.AH≤4) (hb:0≤s.base∧s.base≤100):AS (Dp s) (m,0,s.base)=some (JC m s,s.AH,s.base+s.AH):=by
 have e:∃n:Nat,s.AH=(n:Int):=⟨s.AH.toNat,by omega⟩;obtain ⟨n,hn⟩:=e;have h:=Bw (step:=Dp s) n (fun j=>(if s.A1=true then UR m s.base j else m,(j:Int),s.base+(j:Int))) (JC m s,s.AH,s.base+s.AH)
   (fun j hj=>by
     rw[Et,hn,D2 hj,cond_true];have w1:=AZ (show j<10000000 by omega);have w2:IntKind.i64.wrap (s.base+(j:Int)+1)=s.base+((j+1:Nat):Int):=by rw[IntKind.wrap_i64];omega
     cases s.A1
     · rw[cond_false,w1,w2];rfl
     · rw[cond_true,w1,w2];rfl)
   (by
     rw[Et,hn,Fj,cond_false];unfold JC;rw[hn];rfl)
 have e0:(m,(0:Int),s.base)=(if s.A1=true then UR m s.base 0 else m,((0:Nat):Int),s.base+((0:Nat):Int)):=by
   cases s.A1<;>simp[UR]
 rw[e0,h]
theorem Aa5 (sp:List BY) (i:Nat) (h:i<sp.length):BV (sp.take (i+1))=BV (sp.take i)+(sp.getD i AP).AH:=by rw[AR sp i AP h,Cx]
def TZ (n:Nt) (i:Nat):Bool:=Bs (n.blocks.getD i C1).name&&(decide (Yg (n.blocks.getD i C1))&&decide (Gn n.blocks.length i (n.next.getD i [])∧(n.next.getD i []).length≤4))
def PS (n:Nt) (i:Nat):Bool:=Bs (n.spurs.getD i AP).name&&decide (JQ n.blocks.length (n.blocks.length+BV (n.spurs.take i)) (n.spurs.getD i AP))
theorem Ala (n:Nt) (hl:n.blocks.length≤24) (hn:n.next.length=n.blocks.length) (hr:∀r∈n.next,r.length≤10000000):
   AS (Ei n) ([],0)=some (if (∀j,j<n.blocks.length→TZ n j=true) then Sum.inl (Eh [] (n.blocks.map JN.name),(n.blocks.length:Int)) else Sum.inr false):=by
 have h:=G3 (step:=Ei n) n.blocks.length (fun i=>(Eh [] ((n.blocks.take i).map JN.name),(i:Int))) (Sum.inl (Eh [] (n.blocks.map JN.name),(n.blocks.length:Int))) (Sum.inr false) (fun i=>TZ n i)
   (fun i hi hj=>by
     rw[Er,D2 hi,cond_true,AU n.blocks i C1 hi,Option.bind_some];have w2:=AZ (show i<10000000 by omega);simp only[Jz,Nf,Option.bind_some];have hnx:(Eh [] ((n.blocks.take (i+1)).map JN.name),((i+1:Nat):Int))=
         (FD (Eh [] ((n.blocks.take i).map JN.name)) (n.blocks.getD i C1).name (IntKind.i64.wrap ((Cz (Eh [] ((n.blocks.take i).map JN.name)) (n.blocks.getD i C1).name).getD 0+1)),((i+1:Nat):Int)):=by
       rw[AR n.blocks i C1 hi,List.map_append,List.map_cons,List.map_nil,Up]
     rw[hnx,AU n.next i [] (by omega),Option.bind_some,Wb _ i n.blocks.length (by have:=hr (n.next.getD i []) (A7 n.next i [] (by omega));exact this),Option.bind_some];unfold TZ;generalize n.blocks.getD i C1=b;cases c0:Bs b.name
     · simp
     rw[cond_true,Bool.true_and];by_cases c1:(-9999)≤b.x∧b.x≤9999;rotate_left
     · have e1:(decide ((-9999)≤b.x)&&decide (b.x≤9999))=false:=by rw[←Bool.decide_and];exact decide_eq_false c1
       rw[e1,cond_false,if_neg (by rw[Bool.and_eq_true,decide_eq_true_eq];intro h;exact c1 ⟨h.1.1,h.1.2.1⟩)]
     rw[show (decide ((-9999)≤b.x)&&decide (b.x≤9999))=true by rw[←Bool.decide_and];exact decide_eq_true c1,cond_true];by_cases c2:(-9999)≤b.y∧b.y≤9999;rotate_left
     · have e1:(decide ((-9999)≤b.y)&&decide (b.y≤9999))=false:=by rw[←Bool.decide_and];exact decide_eq_false c2
       rw[e1,cond_false,if_neg (by rw[Bool.and_eq_true,decide_eq_true_eq];intro h;exact c2 ⟨h.1.2.2.1,h.1.2.2.2⟩)]
     rw[show (decide ((-9999)≤b.y)&&decide (b.y≤9999))=true by rw[←Bool.decide_and];exact decide_eq_true c2,cond_true];rw[show decide (Yg b)=true from decide_eq_true ⟨c1.1,c1.2,c2.1,c2.2⟩,Bool.true_and];cases decide (Gn n.blocks.length i (n.next.getD i [])∧(n.next.getD i []).length≤4)
     · simp
     · rw[cond_true,if_pos rfl,w2])
   (fun hj=>by rw[Er,Fj,cond_false,List.take_length])
 exact h
theorem Ap4 (n:Nt) (m:List (List UInt8×Int)) (hb:1≤n.blocks.length∧n.blocks.length≤24) (hl:n.spurs.length≤6):
   AS (Ej n) (m,[],(n.blocks.length:Int),0)=some (if (∀j,j<n.spurs.length→PS n j=true) then Sum.inl (Eh m (n.spurs.map BY.name),n.spurs.foldl JC [],(n.blocks.length:Int)+BV n.spurs,(n.spurs.length:Int)) else Sum.inr false):=by
 have J1:∀i,i≤n.spurs.length→(∀j,j<i→PS n j=true)→0≤BV (n.spurs.take i)∧BV (n.spurs.take i)≤4*i:=by
   intro i hi hj;exact EZ n.blocks.length n.spurs i hi (fun j h=>by
     have:=hj j h;simp only[PS,Bool.and_eq_true,decide_eq_true_eq] at this;exact this.2)
 have h:=G3 (step:=Ej n) n.spurs.length (fun i=>(Eh m ((n.spurs.take i).map BY.name),(n.spurs.take i).foldl JC [],(n.blocks.length:Int)+BV (n.spurs.take i),(i:Int)))
   (Sum.inl (Eh m (n.spurs.map BY.name),n.spurs.foldl JC [],(n.blocks.length:Int)+BV n.spurs,(n.spurs.length:Int))) (Sum.inr false) (fun i=>PS n i)
   (fun i hi hj=>by
     have hs:=J1 i (by omega) hj;rw[Es,D2 hi,cond_true,AU n.spurs i AP hi,Option.bind_some];have w1:IntKind.i64.wrap ((n.blocks.length:Int) - 1)=(n.blocks.length:Int) - 1:=by rw[IntKind.wrap_i64];omega
     have w2:=AZ (show i<10000000 by omega);simp only[Jz,Nf,Option.bind_some,w1];have hnx:(Eh m ((n.spurs.take (i+1)).map BY.name),(n.spurs.take (i+1)).foldl JC [],(n.blocks.length:Int)+BV (n.spurs.take (i+1)),((i+1:Nat):Int))=
         (FD (Eh m ((n.spurs.take i).map BY.name)) (n.spurs.getD i AP).name (IntKind.i64.wrap ((Cz (Eh m ((n.spurs.take i).map BY.name)) (n.spurs.getD i AP).name).getD 0+1)),JC ((n.spurs.take i).foldl JC []) (n.spurs.getD i AP),(n.blocks.length:Int)+BV (n.spurs.take i)+(n.spurs.getD i AP).AH,((i+1:Nat):Int)):=by
       rw[Aa5 _ _ hi,AR n.spurs i AP hi,List.map_append,List.foldl_append,List.map_cons,List.map_nil,Up,Int.add_assoc];rfl
     rw[hnx];unfold PS;generalize Yl:n.spurs.getD i AP=s;cases c0:Bs s.name
     · simp
     rw[cond_true,Bool.true_and];by_cases c1:0≤s.Ft∧s.Ft≤(n.blocks.length:Int) - 1;rotate_left
     · have e1:(decide (0≤s.Ft)&&decide (s.Ft≤(n.blocks.length:Int) - 1))=false:=by rw[←Bool.decide_and];exact decide_eq_false c1
       rw[e1,cond_false,if_neg (by rw[decide_eq_true_eq];intro h;exact c1 ⟨h.1,by have:=h.2.1;omega⟩)]
     rw[show (decide (0≤s.Ft)&&decide (s.Ft≤(n.blocks.length:Int) - 1))=true by rw[←Bool.decide_and];exact decide_eq_true c1,cond_true];by_cases c2:0≤s.out∧s.out≤(n.blocks.length:Int) - 1;rotate_left
     · have e1:(decide (0≤s.out)&&decide (s.out≤(n.blocks.length:Int) - 1))=false:=by rw[←Bool.decide_and];exact decide_eq_false c2
       rw[e1,cond_false,if_neg (by rw[decide_eq_true_eq];intro h;exact c2 ⟨h.2.2.1,by have:=h.2.2.2.1;omega⟩)]
     rw[show (decide (0≤s.out)&&decide (s.out≤(n.blocks.length:Int) - 1))=true by rw[←Bool.decide_and];exact decide_eq_true c2,cond_true];by_cases c3:1≤s.AH∧s.AH≤4;rotate_left
     · have e1:(decide (1≤s.AH)&&decide (s.AH≤4))=false:=by rw[←Bool.decide_and];exact decide_eq_false c3
       rw[e1,cond_false,if_neg (by rw[decide_eq_true_eq];intro h;exact c3 ⟨h.2.2.2.2.1,h.2.2.2.2.2.1⟩)]
     rw[show (decide (1≤s.AH)&&decide (s.AH≤4))=true by rw[←Bool.decide_and];exact decide_eq_true c3,cond_true];by_cases c4:s.base=(n.blocks.length:Int)+BV (n.spurs.take i);rotate_left
     · rw[decide_eq_false c4,cond_false,if_neg (by rw[decide_eq_true_eq];intro h;exact c4 h.2.2.2.2.2.2)]
     rw[decide_eq_true c4,cond_true,if_pos (decide_eq_true ⟨c1.1,by omega,c2.1,by omega,c3.1,c3.2,c4⟩),←c4,Alk s _ c3 (by omega),Option.bind_some,w2])
   (fun hj=>by rw[Es,Fj,cond_false,List.take_length])
 have e0:(m,([]:List (Int×Bool)),(n.blocks.length:Int),(0:Int))=(Eh m ((n.spurs.take 0).map BY.name),(n.spurs.take 0).foldl JC [],(n.blocks.length:Int)+BV (n.spurs.take 0),((0:Nat):Int)):=by
   simp[Eh,BV]
 rw[e0];exact h
theorem Al9 (n:Nt) (m:List (Int×Bool)) (f:Int→Bool) (hm:MB m f) (ok:Bool) (hl:n.Al.length≤8):
   ∃m',AS (Dq n) (m,ok,0)=some (m',ok&&decide (∀i,i<n.Al.length→f (n.Al.getD i 0)=true∧n.Al.getD i 0∉n.Al.take i),(n.Al.length:Int)):=by
 have key:∀k,k≤n.Al.length→∃m',MB m' (fun x=>f x&&decide (x∉n.Al.take k))∧
     ∀r,AS (Dq n) (m',ok&&decide (∀i,i<k→f (n.Al.getD i 0)=true∧n.Al.getD i 0∉n.Al.take i),(k:Int))=some r→AS (Dq n) (m,ok,0)=some r:=by
   intro k
   induction k with
   | zero=>
     intro _;refine ⟨m,hm.congr fun x=>by simp,fun r hr=>?_⟩;simp only[Nat.not_lt_zero,false_implies,implies_true,decide_true,Bool.and_true] at hr;exact hr
   | succ k ih=>
     intro hk;obtain ⟨m',h1,h2⟩:=ih (by omega);refine ⟨Ik m' (n.Al.getD k 0),(h1.del _).congr fun x=>?_,fun r hr=>h2 r ?_⟩
     · rw[AR n.Al k 0 (by omega),Bool.and_assoc]
       congr 1
       rw[Bool.eq_iff_iff];simp[not_or]
     · have w2:=AZ (show k<10000000 by omega);rw[Bx,Eu,D2 (by omega),cond_true,AU n.Al k 0 (by omega),Option.bind_some,w2];have hg:(GD m' (n.Al.getD k 0)).getD false=(f (n.Al.getD k 0)&&decide (n.Al.getD k 0∉n.Al.take k)):=by
         rw[h1.2];split
         · rename_i e;simpa using e.symm
         · rename_i e;simpa using e
       have Jp:decide (∀i,i<k+1→f (n.Al.getD i 0)=true∧n.Al.getD i 0∉n.Al.take i)=(decide (∀i,i<k→f (n.Al.getD i 0)=true∧n.Al.getD i 0∉n.Al.take i)&&(f (n.Al.getD k 0)&&decide (n.Al.getD k 0∉n.Al.take k))):=by
         rw[Bool.eq_iff_iff];simp only[Bool.and_eq_true,decide_eq_true_eq];constructor
         · intro h;exact ⟨fun i hi=>h i (by omega),h k (by omega)⟩
         · rintro ⟨h3,h4⟩ i hi;by_cases e:i=k
           · subst e;exact h4
           · exact h3 i (by omega)
       rw[Jp] at hr;cases c:(ok&&decide (∀i,i<k→f (n.Al.getD i 0)=true∧n.Al.getD i 0∉n.Al.take i))
       · rw[cond_false,Option.bind_some,At];rw[←Bool.and_assoc,c,Bool.false_and] at hr;exact hr
       · rw[cond_true,Option.bind_some,At,hg];rw[←Bool.and_assoc,c,Bool.true_and] at hr;exact hr
 obtain ⟨m',h1,h2⟩:=key n.Al.length (Nat.le_refl _);exact ⟨m',h2 _ (by rw[Bx,Eu,Fj,cond_false,Option.bind_some,Ar])⟩
theorem Af7 (n:Nt) (m:List (Int×Bool)) (hl:n.Al.length≤8):∃r,AS (Ek n) (m,0)=some r:=by
 have key:∀k (m:List (Int×Bool)) i,i+k=n.Al.length→∃r,AS (Ek n) (m,(i:Int))=some r:=by
   intro k
   induction k with
   | zero=>
     intro m i hi;obtain rfl:i=n.Al.length:=by omega
     exact ⟨_,by rw[Bx,Ev,Fj,cond_false,Option.bind_some,Ar]⟩
   | succ k ih=>
     intro m i hi;have w2:=AZ (show i<10000000 by omega);obtain ⟨r,hr⟩:=ih (Ik m (n.Al.getD i 0)) (i+1) (by omega);exact ⟨r,by rw[Bx,Ev,D2 (by omega),cond_true,AU n.Al i 0 (by omega),Option.bind_some,w2,Option.bind_some,At];exact hr⟩
 exact key n.Al.length m 0 (by omega)
theorem YY (l:List (List UInt8)):l.Nodup↔∀i,i<l.length→∀k,k<i→l.getD i []≠l.getD k []:=by
 unfold List.Nodup;rw[List.pairwise_iff_getElem];constructor
 · intro h i hi k hk;have:=h k i (by omega) hi hk;rw[getD_eq hi,getD_eq (show k<l.length by omega)];exact Ne.symm this
 · intro h i j hi hj hij;have:=h j hj i hij;rw[getD_eq hi,getD_eq hj] at this;exact Ne.symm this
theorem WG (n:Nt) (hs:Dd n):C3 n=some (decide (validN n)):=by
 obtain ⟨s1,⟨s2,s2'⟩,s3,s4⟩:=hs;have no:∀{r:Option Bool},¬validN n→r=some false→r=some (decide (validN n)):=fun h hr=>by rw[hr,decide_eq_false h]
 unfold C3;rw[Nf,Option.bind_some];by_cases b1:1≤n.blocks.length∧n.blocks.length≤24;rotate_left
 · refine no (fun h=>b1 ⟨h.1.1,h.1.2.1⟩) ?_;rw[show (decide ((1:Int)≤((n.blocks.length:Nat):Int))&&decide (((n.blocks.length:Nat):Int)≤24))=false by rw[←Bool.decide_and];exact decide_eq_false (by omega)];rfl
 rw[show (decide ((1:Int)≤((n.blocks.length:Nat):Int))&&decide (((n.blocks.length:Nat):Int)≤24))=true by rw[←Bool.decide_and];exact decide_eq_true (by omega),cond_true];by_cases b2:n.next.length=n.blocks.length
 rotate_left
 · refine no (fun h=>b2 h.1.2.2.1) ?_;rw[decide_eq_false (by omega),cond_false]
 rw[decide_eq_true (by omega),cond_true];by_cases b3:n.spurs.length≤6;rotate_left
 · refine no (fun h=>b3 h.2.1) ?_;rw[decide_eq_true (by omega),cond_true]
 rw[decide_eq_false (by omega:¬(6:Int)<((n.spurs.length:Nat):Int)),cond_false];by_cases b4:n.Al.length≤8;rotate_left
 · refine no (fun h=>b4 h.2.2.2.1) ?_;rw[decide_eq_true (by omega),cond_true]
 rw[decide_eq_false (by omega:¬(8:Int)<((n.Al.length:Nat):Int)),cond_false,SK,Option.bind_some];by_cases b5:JD n.cq n.ca n.cd n.cp;rotate_left
 · refine no (fun h=>b5 h.2.2.2.2.1) ?_;rw[decide_eq_false b5,cond_false]
 rw[decide_eq_true b5,cond_true,Ala n b1.2 b2 s2',Option.bind_some];by_cases b6:∀j,j<n.blocks.length→TZ n j=true;rotate_left
 · refine no (fun h=>b6 fun j hj=>?_) ?_
   · have h1:=h.1.2.2.2 j hj;have h2:=(h.2.2.1 j (by simp[BJ];omega)).1;have h3:(BJ n).getD j []=(n.blocks.getD j C1).name:=by
       unfold BJ;simp[List.getD,List.getElem?_append,hj]
     rw[h3] at h2;simp only[TZ,Bool.and_eq_true,decide_eq_true_eq];exact ⟨h2,h1.1,h1.2.2,h1.2.1⟩
   · rw[if_neg b6]
 rw[if_pos b6];simp only;rw[Ap4 n _ b1 b3,Option.bind_some];by_cases b7:∀j,j<n.spurs.length→PS n j=true;rotate_left
 · refine no (fun h=>b7 fun j hj=>?_) ?_
   · have h1:=h.2.2.2.2.2.1 j hj;have h2:=(h.2.2.1 (n.blocks.length+j) (by simp[BJ];omega)).1;have h3:(BJ n).getD (n.blocks.length+j) []=(n.spurs.getD j AP).name:=by
       unfold BJ;simp[List.getD,List.getElem?_append,hj]
     rw[h3] at h2;simp only[PS,Bool.and_eq_true,decide_eq_true_eq];exact ⟨h2,h1⟩
   · rw[if_neg b7]
 rw[if_pos b7];simp only;have g6:∀j,j<n.blocks.length→Bs (n.blocks.getD j C1).name=true∧Yg (n.blocks.getD j C1)∧(n.next.getD j []).length≤4∧Gn n.blocks.length j (n.next.getD j []):=fun j hj=>by
   have:=b6 j hj;simp only[TZ,Bool.and_eq_true,decide_eq_true_eq] at this;exact ⟨this.1,this.2.1,this.2.2.2,this.2.2.1⟩
 have g7:∀j,j<n.spurs.length→Bs (n.spurs.getD j AP).name=true∧JQ n.blocks.length (n.blocks.length+BV (n.spurs.take j)) (n.spurs.getD j AP):=fun j hj=>by
   have:=b7 j hj;simp only[PS,Bool.and_eq_true,decide_eq_true_eq] at this;exact this
 have Ah4:∀s∈n.spurs,1≤s.AH:=by
   intro s hs;obtain ⟨i,hi,rfl⟩:=List.getElem_of_mem hs;have:=(g7 i hi).2.2.2.2.2.1;rwa[getD_eq hi] at this
 have hM:=(MB.Aul n.spurs MB.nil (fun s hs=>by have:=Ah4 s hs;omega)).congr (g:=fun x=>n.spurs.any (Lt x)) (fun x=>by simp);have Att:(0<(n.spurs.foldl JC []).length)↔0<(n.spurs.filter BY.A1).length:=by
   rw[hM.pos,List.length_pos_iff_exists_mem];constructor
   · rintro ⟨x,hx⟩;obtain ⟨s,hs,h⟩:=List.any_eq_true.1 hx;refine ⟨s,List.mem_filter.2 ⟨hs,?_⟩⟩;unfold Lt at h;simp only[Bool.and_eq_true] at h;exact h.1
   · rintro ⟨s,hs⟩;obtain ⟨hs,hd⟩:=List.mem_filter.1 hs;refine ⟨s.base,List.any_eq_true.2 ⟨s,hs,?_⟩⟩;have:=Ah4 s hs;simp[Lt,hd];omega
 have Xa:=Uq (BJ n) [] (by simp);have Atw:Eh (Eh [] (n.blocks.map JN.name)) (n.spurs.map BY.name)=Eh [] (BJ n):=by rw[←Ak6];rfl
 have J7:(BJ n).length=n.blocks.length+n.spurs.length:=by simp[BJ]
 rw[Atw];have w1:IntKind.i64.wrap (((n.blocks.length:Nat):Int)+((n.spurs.length:Nat):Int))=((n.blocks.length+n.spurs.length:Nat):Int):=by rw[IntKind.wrap_i64];omega
 have hnn:Hn n↔(BJ n).Nodup:=by
   rw[YY];constructor
   · intro h i hi k hk;exact (h i hi).2 k hk
   · intro h i hi;refine ⟨?_,fun k hk=>h i hi k hk⟩;by_cases hb:i<n.blocks.length
     · have h3:(BJ n).getD i []=(n.blocks.getD i C1).name:=by
         unfold BJ;simp[List.getD,List.getElem?_append,hb]
       rw[h3];exact (g6 i hb).1
     · have h3:(BJ n).getD i []=(n.spurs.getD (i - n.blocks.length) AP).name:=by
         unfold BJ;simp[List.getD,List.getElem?_append,hb,show i - n.blocks.length<n.spurs.length by omega]
       rw[h3];exact (g7 _ (by omega)).1
 have MC:decide ((((Eh [] (BJ n)).length:Nat):Int)=((n.blocks.length+n.spurs.length:Nat):Int))=decide (Hn n):=by
   rw[Bool.eq_iff_iff,decide_eq_true_eq,decide_eq_true_eq,hnn];have:=Xa.2.2;simp only[List.length_nil,Nat.zero_add,List.map_nil,List.nil_append] at this;rw[←this,J7];omega
 by_cases b8:0<(n.spurs.foldl JC []).length
 · rw[decide_eq_true (by omega:(0:Int)<(((n.spurs.foldl JC []).length:Nat):Int)),cond_true,w1,MC];obtain ⟨m',hm'⟩:=Al9 n (n.spurs.foldl JC []) _ hM (decide (Hn n)) b4;rw[hm',Option.bind_some];simp only
   congr 1
   rw[Bool.eq_iff_iff,Bool.and_eq_true,decide_eq_true_eq,decide_eq_true_eq,decide_eq_true_eq];constructor
   · rintro ⟨h1,h2⟩;exact ⟨⟨b1.1,b1.2,b2,fun i hi=>(g6 i hi).2⟩,b3,h1,b4,b5,fun i hi=>(g7 i hi).2,h2,Att.1 b8⟩
   · intro h;exact ⟨h.2.2.1,h.2.2.2.2.2.2.1⟩
 · rw[decide_eq_false (by omega:¬(0:Int)<(((n.spurs.foldl JC []).length:Nat):Int)),cond_false];obtain ⟨r,hr⟩:=Af7 n (n.spurs.foldl JC []) b4;rw[hr,Option.bind_some];exact no (fun h=>b8 (Att.2 h.2.2.2.2.2.2.2)) rfl
theorem Agl (l:List Int) (at_ Mx:Nat) (G4:at_<90000) (Qw:1≤Mx) (Qg:Mx≤10):
   Aj Tryz.prog 20 [.ptr 1000000 0,.p (.int .i64 (Mx:Nat))] [(1000000,.box (Br l at_))]
     fun h r=>∃at2 n,at2≤at_+300∧(validN n∧n.blocks.length≤10)∧h=[(1000000,.box (Br l at2))]∧r= .agg n.cs:=by
 refine Ak Tryz.func20 rfl Ajj (by simp[Tryz.f20]) ?_;simp only[go_sem,Br];refine Au (Am1 l at_ Mx (by omega) Qw Qg) ?_;rintro h' r ⟨a,n,ha,hP,rfl,rfl⟩;have FH:=hP.valid;obtain ⟨⟨nb1,nb2⟩,_,J7,hnx,hns,_,hss,Yo,SZ,_⟩:=hP;obtain ⟨bl,nx,sp,rb,cq,ca,cd,cp⟩:=n;simp only at nb1 nb2 J7 hnx hns hss Yo SZ;obtain ⟨q1,Yq,Awn⟩:=Bb l a 3 (by omega);have hV:∀(nx':List (List Int)) (rb':List Int),(nx'.length=bl.length∧∀i,i<bl.length→(nx'.getD i []).length≤4∧Gn bl.length i (nx'.getD i []))→CJ sp rb'→rb'.length≤8→validN ⟨bl,nx',sp,rb',cq,ca,cd,cp⟩∧(⟨bl,nx',sp,rb',cq,ca,cd,cp⟩:Nt).blocks.length≤10:=by
   intro nx' rb' hn D6 Fa;obtain ⟨⟨v1,v2,v3,v4⟩,v5,v6,v7,v8,v9,v10,v11⟩:=FH;exact ⟨⟨⟨v1,v2,hn.1,fun i hi=>⟨(v4 i hi).1,(hn.2 i hi).1,(hn.2 i hi).2⟩⟩,v5,v6,Fa,v8,v9,D6,v11⟩,nb2⟩
 have hN0:nx.length=bl.length∧∀i,i<bl.length→(nx.getD i []).length≤4∧Gn bl.length i (nx.getD i []):=by
   obtain ⟨⟨v1,v2,v3,v4⟩,_⟩:=FH;exact ⟨v3,fun i hi=>(v4 i hi).2⟩
 have Asx:=EZ bl.length sp sp.length (Nat.le_refl _) hss;rw[List.take_length] at Asx;have e1:=Ug bl bl.length (Nat.le_refl _);have e3:=Uf sp sp.length (Nat.le_refl _);have e4:=EM rb rb.length (Nat.le_refl _);simp only[go_sem,Nt.os,Br];refine Au ((Bo l a 3 (by omega) (AX _ (by omega) (by omega)))) ?_;rintro h' r ⟨rfl,rfl⟩;simp only[go_sem,Br,Yq];cases c1:decide ((q1:Int)=0)
 · obtain ⟨q2,Yp,Aqc⟩:=Bb l (a+1) 3 (by omega);have NO:nx.length=nx.length:=rfl;have e2:List.take bl.length (AM nx)=AM nx:=List.take_of_length_le (by simp[AM];omega);simp only[go_sem,c1];refine Au ((Bo l (a+1) 3 (by omega) (AX _ (by omega) (by omega)))) ?_;rintro h' r ⟨rfl,rfl⟩;simp only[go_sem,Br,Yp];cases c3:decide ((q2:Int)=0)
   · simp only[go_sem,c3];refine Ah ?_;simp only[go_sem,Ay,Aw,J7,NO,Ax,Ab,e1,e2,e3,e4];refine ⟨(a+1)+1,⟨bl,nx,sp,rb,cq,ca,cd,cp⟩,by omega,hV nx rb hN0 SZ (by omega),?_⟩;first | exact ⟨rfl,rfl⟩ | rfl | (simp[Nt.cs];done)
   simp only[go_sem,c3];refine Ao (fun q:Nat×List Int=>⟨[(0,.ptr 1000000 0),(4,.ptr 4 0),(5,.ptr 5 0),(6,.p (.int .i64 (q.1:Nat)))],
       [(1000000,.box [.p (.sl (Ag l)),.p (.int .i64 (((a+1)+1:Nat):Int))]),(4,.box [.cl [],.cl [],.cl [],.cl [],.p (.int .i64 0),.p (.int .i64 0),.p (.int .i64 0),.p (.int .i64 0)]),
        (5,.box [.ref 10011 0 bl.length bl.length,.ref 20011 0 nx.length nx.length,.ref 30011 0 sp.length sp.length,.ref 40011 0 q.2.length q.2.length,.p (.int .i64 cq),.p (.int .i64 ca),.p (.int .i64 cd),.p (.int .i64 cp)]),
        (10011,.arr 76 3 (Bi bl)),(20011,.arr 22 1 (AM nx)),(30011,.arr 68 6 (Bh sp)),(40011,.arr 3 1 (Ag q.2))],83⟩)
     (fun q=>q.1≤sp.length∧q.2.length≤8∧CJ sp q.2) (fun q=>sp.length - q.1) (0,rb) ⟨Nat.zero_le _,by simp only;omega,SZ⟩ (Wk.forget (by simp[Le,AG,Av,get,Aa,Ac,Ad,D.ids,Ai,AO.ids,Ae,base,NO])) ?_
   rintro ⟨i,r1⟩ m4 ⟨hi,p0,D6⟩ TM;simp only at hi p0 D6;have e4:=EM r1 r1.length (Nat.le_refl _);cases c5:decide ((i:Int)<(sp.length:Int))
   · simp only[go_sem,Ax,c5];refine Ah ?_;simp only[go_sem,Ay,Aw,J7,NO,Ax,Ab,e1,e2,e3,e4];refine ⟨(a+1)+1,⟨bl,nx,sp,r1,cq,ca,cd,cp⟩,by omega,hV nx r1 hN0 D6 (by omega),?_⟩;first | exact ⟨rfl,rfl⟩ | rfl | (simp[Nt.cs];done)
   have hit:i<sp.length:=by have:=of_decide_eq_true c5;omega
   have TR:=As i (by omega);have Oq:=CG sp i hit;have Bm:(0:Int)≤(i:Int)∧(i:Int)<(sp.length:Int):=by omega
   have Di:=A7 sp i AP hit;obtain ⟨_,_,_,_,g5,g6,g7⟩:=hss i hit;obtain ⟨g8,g9,_⟩:=Kd hss hit;generalize Yl:sp.getD i AP=s at*;simp only[go_sem,c5,Ax];refine Ao (fun q:Nat×List Int=>⟨[(0,.ptr 1000000 0),(4,.ptr 4 0),(5,.ptr 5 0),(6,.p (.int .i64 (i:Nat))),(7,.p (.int .i64 (q.1:Nat)))],
       [(1000000,.box [.p (.sl (Ag l)),.p (.int .i64 (((a+1)+1:Nat):Int))]),(4,.box [.cl [],.cl [],.cl [],.cl [],.p (.int .i64 0),.p (.int .i64 0),.p (.int .i64 0),.p (.int .i64 0)]),
        (5,.box [.ref 10011 0 bl.length bl.length,.ref 20011 0 nx.length nx.length,.ref 30011 0 sp.length sp.length,.ref 40011 0 q.2.length q.2.length,.p (.int .i64 cq),.p (.int .i64 ca),.p (.int .i64 cd),.p (.int .i64 cp)]),
        (10011,.arr 76 3 (Bi bl)),(20011,.arr 22 1 (AM nx)),(30011,.arr 68 6 (Bh sp)),(40011,.arr 3 1 (Ag q.2))],83⟩)
     (fun q=>q.1≤4∧(q.1:Int)≤s.AH∧q.2.length≤8∧CJ sp q.2) (fun q=>4 - q.1) (0,r1) ⟨by simp,by simp only;omega,p0,D6⟩ (Wk.forget (by simp[Le,AG,Av,get,Aa,Ac,Ad,D.ids,Ai,AO.ids,Ae,base,NO])) ?_
   rintro ⟨j,r2⟩ m5 ⟨hj4,hjs,KO,Fa⟩ WW;simp only at hj4 hjs KO Fa;cases c6:decide ((j:Int)<s.AH)
   · simp only[go_sem,Ax,Int.toNat_natCast,Oq,Bm,c6,TR];refine TM (i+1,r2) _ ⟨hit,KO,Fa⟩ (by simp only;omega) ?_
     (refine Wk.forget ?_;simp[Le,AG,Av,get,Aa,Ac,Ad,D.ids,Ai,AO.ids,Ae,base];done)
   cases c7:s.A1
   · simp only[go_sem,Ax,Int.toNat_natCast,Oq,Bm,c6,c7,TR];refine TM (i+1,r2) _ ⟨hit,KO,Fa⟩ (by simp only;omega) ?_
     (refine Wk.forget ?_;simp[Le,AG,Av,get,Aa,Ac,Ad,D.ids,Ai,AO.ids,Ae,base];done)
   cases c8:decide ((r2.length:Int)<8)
   · simp only[go_sem,Ax,Ab,Int.toNat_natCast,Oq,Bm,c6,c7,c8,TR];refine TM (i+1,r2) _ ⟨hit,KO,Fa⟩ (by simp only;omega) ?_
     (refine Wk.forget ?_;simp[Le,AG,Av,get,Aa,Ac,Ad,D.ids,Ai,AO.ids,Ae,base];done)
   have hj6:(j:Int)<s.AH:=of_decide_eq_true c6;have hr7:r2.length<8:=by have:=of_decide_eq_true c8;omega
   have TQ:=As j (by omega);have hwx:IntKind.i64.wrap (s.base+(j:Int))=s.base+(j:Int):=by rw[An]<;>omega
   simp only[go_sem,Ax,Ab,Int.toNat_natCast,Oq,Bm,c6,c7,c8,hwx];refine Pr rfl rfl (KT r2 (s.base+(j:Int)) (by omega)) (by simp[HI,P8,ev,get,List.take_of_length_le,ZB]) ?_;rintro h' r ⟨rfl,rfl⟩;refine ⟨rfl,rfl,?_⟩;cases c9:decide (s.base+(j:Int)∈r2);rotate_left
   · simp only[go_sem,c9,TQ];refine WW (j+1,r2) _ ⟨by simp only;omega,by simp only;omega,KO,Fa⟩ (by simp only;omega) ?_
     (refine Wk.forget ?_;simp[Le,AG,Av,get,Aa,Ac,Ad,D.ids,Ai,AO.ids,Ae,base];done)
   have Vi:=of_decide_eq_false c9;have NQ:sp.any (Lt (s.base+(j:Int)))=true:=by
       rw[List.any_eq_true];exact ⟨s,Di,by unfold Lt;rw[c7];simp;omega⟩
   simp only[go_sem,c9,Ab];refine ⟨⟨Cf _ _ rfl,by omega⟩,?_⟩;simp only[go_sem,TQ];refine WW (j+1,r2++[s.base+(j:Int)]) _ ⟨by simp only;omega,by simp only;omega,by simp;omega,GQ Fa NQ Vi⟩ (by simp only;omega) ?_
   (refine Wk.forget ?_;simp[Le,AG,Av,get,Aa,Ac,Ad,D.ids,Ai,AO.ids,Ae,base,Cq,Ab];done)
 cases c2:decide (1<(bl.length:Int))
 · obtain ⟨q2,Yp,Aqc⟩:=Bb l (a+1) 3 (by omega);have NO:nx.length=nx.length:=rfl;have e2:List.take bl.length (AM nx)=AM nx:=List.take_of_length_le (by simp[AM];omega);simp only[go_sem,c1,c2,Ay];refine Au ((Bo l (a+1) 3 (by omega) (AX _ (by omega) (by omega)))) ?_;rintro h' r ⟨rfl,rfl⟩;simp only[go_sem,Br,Yp];cases c3:decide ((q2:Int)=0)
   · simp only[go_sem,c3];refine Ah ?_;simp only[go_sem,Ay,Aw,J7,NO,Ax,Ab,e1,e2,e3,e4];refine ⟨(a+1)+1,⟨bl,nx,sp,rb,cq,ca,cd,cp⟩,by omega,hV nx rb hN0 SZ (by omega),?_⟩;first | exact ⟨rfl,rfl⟩ | rfl | (simp[Nt.cs];done)
   simp only[go_sem,c3];refine Ao (fun q:Nat×List Int=>⟨[(0,.ptr 1000000 0),(4,.ptr 4 0),(5,.ptr 5 0),(6,.p (.int .i64 (q.1:Nat)))],
       [(1000000,.box [.p (.sl (Ag l)),.p (.int .i64 (((a+1)+1:Nat):Int))]),(4,.box [.cl [],.cl [],.cl [],.cl [],.p (.int .i64 0),.p (.int .i64 0),.p (.int .i64 0),.p (.int .i64 0)]),
        (5,.box [.ref 10011 0 bl.length bl.length,.ref 20011 0 nx.length nx.length,.ref 30011 0 sp.length sp.length,.ref 40011 0 q.2.length q.2.length,.p (.int .i64 cq),.p (.int .i64 ca),.p (.int .i64 cd),.p (.int .i64 cp)]),
        (10011,.arr 76 3 (Bi bl)),(20011,.arr 22 1 (AM nx)),(30011,.arr 68 6 (Bh sp)),(40011,.arr 3 1 (Ag q.2))],83⟩)
     (fun q=>q.1≤sp.length∧q.2.length≤8∧CJ sp q.2) (fun q=>sp.length - q.1) (0,rb) ⟨Nat.zero_le _,by simp only;omega,SZ⟩ (Wk.forget (by simp[Le,AG,Av,get,Aa,Ac,Ad,D.ids,Ai,AO.ids,Ae,base,NO])) ?_
   rintro ⟨i,r1⟩ m4 ⟨hi,p0,D6⟩ TM;simp only at hi p0 D6;have e4:=EM r1 r1.length (Nat.le_refl _);cases c5:decide ((i:Int)<(sp.length:Int))
   · simp only[go_sem,Ax,c5];refine Ah ?_;simp only[go_sem,Ay,Aw,J7,NO,Ax,Ab,e1,e2,e3,e4];refine ⟨(a+1)+1,⟨bl,nx,sp,r1,cq,ca,cd,cp⟩,by omega,hV nx r1 hN0 D6 (by omega),?_⟩;first | exact ⟨rfl,rfl⟩ | rfl | (simp[Nt.cs];done)
   have hit:i<sp.length:=by have:=of_decide_eq_true c5;omega
   have TR:=As i (by omega);have Oq:=CG sp i hit;have Bm:(0:Int)≤(i:Int)∧(i:Int)<(sp.length:Int):=by omega
   have Di:=A7 sp i AP hit;obtain ⟨_,_,_,_,g5,g6,g7⟩:=hss i hit;obtain ⟨g8,g9,_⟩:=Kd hss hit;generalize Yl:sp.getD i AP=s at*;simp only[go_sem,c5,Ax];refine Ao (fun q:Nat×List Int=>⟨[(0,.ptr 1000000 0),(4,.ptr 4 0),(5,.ptr 5 0),(6,.p (.int .i64 (i:Nat))),(7,.p (.int .i64 (q.1:Nat)))],
       [(1000000,.box [.p (.sl (Ag l)),.p (.int .i64 (((a+1)+1:Nat):Int))]),(4,.box [.cl [],.cl [],.cl [],.cl [],.p (.int .i64 0),.p (.int .i64 0),.p (.int .i64 0),.p (.int .i64 0)]),
        (5,.box [.ref 10011 0 bl.length bl.length,.ref 20011 0 nx.length nx.length,.ref 30011 0 sp.length sp.length,.ref 40011 0 q.2.length q.2.length,.p (.int .i64 cq),.p (.int .i64 ca),.p (.int .i64 cd),.p (.int .i64 cp)]),
        (10011,.arr 76 3 (Bi bl)),(20011,.arr 22 1 (AM nx)),(30011,.arr 68 6 (Bh sp)),(40011,.arr 3 1 (Ag q.2))],83⟩)
     (fun q=>q.1≤4∧(q.1:Int)≤s.AH∧q.2.length≤8∧CJ sp q.2) (fun q=>4 - q.1) (0,r1) ⟨by simp,by simp only;omega,p0,D6⟩ (Wk.forget (by simp[Le,AG,Av,get,Aa,Ac,Ad,D.ids,Ai,AO.ids,Ae,base,NO])) ?_
   rintro ⟨j,r2⟩ m5 ⟨hj4,hjs,KO,Fa⟩ WW;simp only at hj4 hjs KO Fa;cases c6:decide ((j:Int)<s.AH)
   · simp only[go_sem,Ax,Int.toNat_natCast,Oq,Bm,c6,TR];refine TM (i+1,r2) _ ⟨hit,KO,Fa⟩ (by simp only;omega) ?_
     (refine Wk.forget ?_;simp[Le,AG,Av,get,Aa,Ac,Ad,D.ids,Ai,AO.ids,Ae,base];done)
   cases c7:s.A1
   · simp only[go_sem,Ax,Int.toNat_natCast,Oq,Bm,c6,c7,TR];refine TM (i+1,r2) _ ⟨hit,KO,Fa⟩ (by simp only;omega) ?_
     (refine Wk.forget ?_;simp[Le,AG,Av,get,Aa,Ac,Ad,D.ids,Ai,AO.ids,Ae,base];done)
   cases c8:decide ((r2.length:Int)<8)
   · simp only[go_sem,Ax,Ab,Int.toNat_natCast,Oq,Bm,c6,c7,c8,TR];refine TM (i+1,r2) _ ⟨hit,KO,Fa⟩ (by simp only;omega) ?_
     (refine Wk.forget ?_;simp[Le,AG,Av,get,Aa,Ac,Ad,D.ids,Ai,AO.ids,Ae,base];done)
   have hj6:(j:Int)<s.AH:=of_decide_eq_true c6;have hr7:r2.length<8:=by have:=of_decide_eq_true c8;omega
   have TQ:=As j (by omega);have hwx:IntKind.i64.wrap (s.base+(j:Int))=s.base+(j:Int):=by rw[An]<;>omega
   simp only[go_sem,Ax,Ab,Int.toNat_natCast,Oq,Bm,c6,c7,c8,hwx];refine Pr rfl rfl (KT r2 (s.base+(j:Int)) (by omega)) (by simp[HI,P8,ev,get,List.take_of_length_le,ZB]) ?_;rintro h' r ⟨rfl,rfl⟩;refine ⟨rfl,rfl,?_⟩;cases c9:decide (s.base+(j:Int)∈r2);rotate_left
   · simp only[go_sem,c9,TQ];refine WW (j+1,r2) _ ⟨by simp only;omega,by simp only;omega,KO,Fa⟩ (by simp only;omega) ?_
     (refine Wk.forget ?_;simp[Le,AG,Av,get,Aa,Ac,Ad,D.ids,Ai,AO.ids,Ae,base];done)
   have Vi:=of_decide_eq_false c9;have NQ:sp.any (Lt (s.base+(j:Int)))=true:=by
       rw[List.any_eq_true];exact ⟨s,Di,by unfold Lt;rw[c7];simp;omega⟩
   simp only[go_sem,c9,Ab];refine ⟨⟨Cf _ _ rfl,by omega⟩,?_⟩;simp only[go_sem,TQ];refine WW (j+1,r2++[s.base+(j:Int)]) _ ⟨by simp only;omega,by simp only;omega,by simp;omega,GQ Fa NQ Vi⟩ (by simp only;omega) ?_
   (refine Wk.forget ?_;simp[Le,AG,Av,get,Aa,Ac,Ad,D.ids,Ai,AO.ids,Ae,base,Cq,Ab];done)
 · obtain ⟨u,hu,hub⟩:=Bb l (a+1) bl.length (by omega);obtain ⟨q2,Yp,Aqc⟩:=Bb l (a+2) 3 (by omega);have hu0:(0:Int)≤(u:Int)∧(u:Int)<(nx.length:Int):=by omega
   have hN1:(nx.set u []).length=bl.length∧∀i,i<bl.length→((nx.set u []).getD i []).length≤4∧Gn bl.length i ((nx.set u []).getD i []):=by
     refine ⟨by simp[hN0.1],fun i hi=>?_⟩;by_cases h:u=i
     · subst h;have:(nx.set u []).getD u []=[]:=by simp[List.getD,show u<nx.length by omega]
       rw[this];exact ⟨by simp,fun k hk=>by simp at hk⟩
     · have:(nx.set u []).getD i []=nx.getD i []:=by simp[List.getD,h]
       rw[this];exact hN0.2 i hi
   have NO:(nx.set u []).length=nx.length:=by simp
   have e2:List.take bl.length (AM (nx.set u []))=AM (nx.set u []):=List.take_of_length_le (by simp[AM];omega);have hsn:(AM nx).set u [.sl []]=AM (nx.set u []):=by simp[AM,Ag,List.map_set]
   simp only[go_sem,c1,c2,Ay];refine BB [(10011,.arr 76 3 (Bi bl)),(5,.box [.ref 10011 0 bl.length bl.length,.ref 20011 0 nx.length nx.length,.ref 30011 0 sp.length sp.length,.ref 40011 0 rb.length rb.length,.p (.int .i64 cq),.p (.int .i64 ca),.p (.int .i64 cd),.p (.int .i64 cp)]),(20011,.arr 22 1 (AM nx))] mixed (p:=[(0,0),(1,0),(2,0),(3,0),(4,0),(5,0),(6,2),(7,0),(8,3)]) (by kernel_rfl) (by simp[Av,get]) ?_;simp only[go_sem,Ay];refine Bu ((Bo l (a+1) bl.length (by omega) (AX _ (by omega) (by omega)))) ?_;rintro h' r ⟨rfl,rfl⟩;have hgu:(AM nx).getD u []=[.sl (Ag (nx.getD u []))]:=by simp[AM,List.getD,show u<nx.length by omega]
   simp only[go_sem,Br,hu,Aw,Int.toNat_natCast,hu0,hgu,hsn];refine Au ((Bo l (a+2) 3 (by omega) (AX _ (by omega) (by omega)))) ?_;rintro h' r ⟨rfl,rfl⟩;simp only[go_sem,Br,Yp];cases c3:decide ((q2:Int)=0)
   · simp only[go_sem,c3];refine Ah ?_;simp only[go_sem,Ay,Aw,J7,NO,Ax,Ab,e1,e2,e3,e4];refine ⟨(a+2)+1,⟨bl,(nx.set u []),sp,rb,cq,ca,cd,cp⟩,by omega,hV (nx.set u []) rb hN1 SZ (by omega),?_⟩;first | exact ⟨rfl,rfl⟩ | rfl | (simp[Nt.cs];done)
   simp only[go_sem,c3];refine Ao (fun q:Nat×List Int=>⟨[(0,.ptr 1000000 0),(4,.ptr 4 0),(5,.ptr 5 0),(6,.p (.int .i64 (q.1:Nat)))],
       [(1000000,.box [.p (.sl (Ag l)),.p (.int .i64 (((a+2)+1:Nat):Int))]),(4,.box [.cl [],.cl [],.cl [],.cl [],.p (.int .i64 0),.p (.int .i64 0),.p (.int .i64 0),.p (.int .i64 0)]),
        (5,.box [.ref 10011 0 bl.length bl.length,.ref 20011 0 nx.length nx.length,.ref 30011 0 sp.length sp.length,.ref 40011 0 q.2.length q.2.length,.p (.int .i64 cq),.p (.int .i64 ca),.p (.int .i64 cd),.p (.int .i64 cp)]),
        (10011,.arr 76 3 (Bi bl)),(20011,.arr 22 1 (AM (nx.set u []))),(30011,.arr 68 6 (Bh sp)),(40011,.arr 3 1 (Ag q.2))],83⟩)
     (fun q=>q.1≤sp.length∧q.2.length≤8∧CJ sp q.2) (fun q=>sp.length - q.1) (0,rb) ⟨Nat.zero_le _,by simp only;omega,SZ⟩ (Wk.forget (by simp[Le,AG,Av,get,Aa,Ac,Ad,D.ids,Ai,AO.ids,Ae,base,NO])) ?_
   rintro ⟨i,r1⟩ m4 ⟨hi,p0,D6⟩ TM;simp only at hi p0 D6;have e4:=EM r1 r1.length (Nat.le_refl _);cases c5:decide ((i:Int)<(sp.length:Int))
   · simp only[go_sem,Ax,c5];refine Ah ?_;simp only[go_sem,Ay,Aw,J7,NO,Ax,Ab,e1,e2,e3,e4];refine ⟨(a+2)+1,⟨bl,(nx.set u []),sp,r1,cq,ca,cd,cp⟩,by omega,hV (nx.set u []) r1 hN1 D6 (by omega),?_⟩;first | exact ⟨rfl,rfl⟩ | rfl | (simp[Nt.cs];done)
   have hit:i<sp.length:=by have:=of_decide_eq_true c5;omega
   have TR:=As i (by omega);have Oq:=CG sp i hit;have Bm:(0:Int)≤(i:Int)∧(i:Int)<(sp.length:Int):=by omega
   have Di:=A7 sp i AP hit;obtain ⟨_,_,_,_,g5,g6,g7⟩:=hss i hit;obtain ⟨g8,g9,_⟩:=Kd hss hit;generalize Yl:sp.getD i AP=s at*;simp only[go_sem,c5,Ax];refine Ao (fun q:Nat×List Int=>⟨[(0,.ptr 1000000 0),(4,.ptr 4 0),(5,.ptr 5 0),(6,.p (.int .i64 (i:Nat))),(7,.p (.int .i64 (q.1:Nat)))],
       [(1000000,.box [.p (.sl (Ag l)),.p (.int .i64 (((a+2)+1:Nat):Int))]),(4,.box [.cl [],.cl [],.cl [],.cl [],.p (.int .i64 0),.p (.int .i64 0),.p (.int .i64 0),.p (.int .i64 0)]),
        (5,.box [.ref 10011 0 bl.length bl.length,.ref 20011 0 nx.length nx.length,.ref 30011 0 sp.length sp.length,.ref 40011 0 q.2.length q.2.length,.p (.int .i64 cq),.p (.int .i64 ca),.p (.int .i64 cd),.p (.int .i64 cp)]),
        (10011,.arr 76 3 (Bi bl)),(20011,.arr 22 1 (AM (nx.set u []))),(30011,.arr 68 6 (Bh sp)),(40011,.arr 3 1 (Ag q.2))],83⟩)
     (fun q=>q.1≤4∧(q.1:Int)≤s.AH∧q.2.length≤8∧CJ sp q.2) (fun q=>4 - q.1) (0,r1) ⟨by simp,by simp only;omega,p0,D6⟩ (Wk.forget (by simp[Le,AG,Av,get,Aa,Ac,Ad,D.ids,Ai,AO.ids,Ae,base,NO])) ?_
   rintro ⟨j,r2⟩ m5 ⟨hj4,hjs,KO,Fa⟩ WW;simp only at hj4 hjs KO Fa;cases c6:decide ((j:Int)<s.AH)
   · simp only[go_sem,Ax,Int.toNat_natCast,Oq,Bm,c6,TR];refine TM (i+1,r2) _ ⟨hit,KO,Fa⟩ (by simp only;omega) ?_
     (refine Wk.forget ?_;simp[Le,AG,Av,get,Aa,Ac,Ad,D.ids,Ai,AO.ids,Ae,base];done)
   cases c7:s.A1
   · simp only[go_sem,Ax,Int.toNat_natCast,Oq,Bm,c6,c7,TR];refine TM (i+1,r2) _ ⟨hit,KO,Fa⟩ (by simp only;omega) ?_
     (refine Wk.forget ?_;simp[Le,AG,Av,get,Aa,Ac,Ad,D.ids,Ai,AO.ids,Ae,base];done)
   cases c8:decide ((r2.length:Int)<8)
   · simp only[go_sem,Ax,Ab,Int.toNat_natCast,Oq,Bm,c6,c7,c8,TR];refine TM (i+1,r2) _ ⟨hit,KO,Fa⟩ (by simp only;omega) ?_
     (refine Wk.forget ?_;simp[Le,AG,Av,get,Aa,Ac,Ad,D.ids,Ai,AO.ids,Ae,base];done)
   have hj6:(j:Int)<s.AH:=of_decide_eq_true c6;have hr7:r2.length<8:=by have:=of_decide_eq_true c8;omega
   have TQ:=As j (by omega);have hwx:IntKind.i64.wrap (s.base+(j:Int))=s.base+(j:Int):=by rw[An]<;>omega
   simp only[go_sem,Ax,Ab,Int.toNat_natCast,Oq,Bm,c6,c7,c8,hwx];refine Pr rfl rfl (KT r2 (s.base+(j:Int)) (by omega)) (by simp[HI,P8,ev,get,List.take_of_length_le,ZB]) ?_;rintro h' r ⟨rfl,rfl⟩;refine ⟨rfl,rfl,?_⟩;cases c9:decide (s.base+(j:Int)∈r2);rotate_left
   · simp only[go_sem,c9,TQ];refine WW (j+1,r2) _ ⟨by simp only;omega,by simp only;omega,KO,Fa⟩ (by simp only;omega) ?_
     (refine Wk.forget ?_;simp[Le,AG,Av,get,Aa,Ac,Ad,D.ids,Ai,AO.ids,Ae,base];done)
   have Vi:=of_decide_eq_false c9;have NQ:sp.any (Lt (s.base+(j:Int)))=true:=by
       rw[List.any_eq_true];exact ⟨s,Di,by unfold Lt;rw[c7];simp;omega⟩
   simp only[go_sem,c9,Ab];refine ⟨⟨Cf _ _ rfl,by omega⟩,?_⟩;simp only[go_sem,TQ];refine WW (j+1,r2++[s.base+(j:Int)]) _ ⟨by simp only;omega,by simp only;omega,by simp;omega,GQ Fa NQ Vi⟩ (by simp only;omega) ?_
   (refine Wk.forget ?_;simp[Le,AG,Av,get,Aa,Ac,Ad,D.ids,Ai,AO.ids,Ae,base,Cq,Ab];done)
def nI (l:List Nat):List Int:=List.map (fun n:Nat=>(n:Int)) l
theorem AQ (l:List Nat):(nI l).length=l.length:=by simp[nI]
theorem B1 (l:List Nat) (i:Nat):(nI l).getD i 0=((l.getD i 0:Nat):Int):=by
 by_cases h:i<l.length<;>simp[nI,List.getD,h]
theorem Apr (l:List Nat) (i x:Nat):(nI l).set i (x:Int)=nI (l.set i x):=by simp[nI,List.map_set]
theorem Am5 (l:List Nat) (x:Nat):nI l++[(x:Int)]=nI (l++[x]):=by simp[nI]
theorem Am4 (l:List Nat) (k:Nat):(nI l).take k=nI (l.take k):=by simp[nI,List.map_take]
theorem Am6 (l:List Nat) (k:Nat):(nI l).drop k=nI (l.drop k):=by simp[nI,List.map_drop]
theorem Apt (l:List Nat) (x:Nat):(x:Int)∈nI l↔x∈l:=by
 simp only[nI,List.mem_map];constructor
 · rintro ⟨y,hy,e⟩;have:y=x:=by omega
   rwa[this] at hy
 · exact fun h=>⟨x,h,rfl⟩
attribute [go_sem] AQ Apr Am5
theorem Aad (l:List Int) (i:Nat) (hi:i<l.length) (hl:l.length≤10000000) (hn:∀j,j<i→l.getD j 0≠l.getD i 0):Nn l (l.getD i 0)=some (i:Int):=by
 have RE:=Bw (step:=OE l (l.getD i 0)) i (fun k=>(k:Int)) (Sum.inr (i:Int))
   (fun k hk=>by
     have Yu:k<l.length:=by omega
     rw[I7,D2 Yu,cond_true,AU l k 0 Yu,Option.bind_some,decide_eq_false (fun e=>hn k hk e.symm),cond_false,AZ (by omega)])
   (by rw[I7,D2 hi,cond_true,AU l i 0 hi,Option.bind_some,decide_eq_true rfl,cond_true])
 unfold Nn;rw[show (0:Int)=((0:Nat):Int) from rfl] at*;rw[RE];rfl
theorem Alm (l:List Int) (h1:1≤l.length) (hl:l.length≤10000000):∃m,UO l=some m∧m∈l∧∀x∈l,m≤x:=by
 have key:∀d k,k+d=l.length→1≤k→∀m,m∈l.take k→(∀x∈l.take k,m≤x)→∃m' j,AS (UP l) (m,(k:Int))=some (m',j)∧m'∈l∧∀x∈l,m'≤x:=by
   intro d
   induction d with
   | zero=>
     intro k hk _ m hm hx;obtain rfl:k=l.length:=by omega
     rw[List.take_length] at hm hx;exact ⟨m,_,by rw[Bx,Mn,Fj,cond_false];rfl,hm,hx⟩
   | succ d ih=>
     intro k hk OZ m hm hx;have Yu:k<l.length:=by omega
     rw[Bx,Mn,D2 Yu,cond_true,AU l k 0 Yu,Option.bind_some,Option.bind_some,At,AZ (by omega)];refine ih (k+1) (by omega) (by omega) _ ?_ ?_
     · rw[AR l k 0 Yu,List.mem_append];split
       · exact .inr (by simp)
       · exact .inl hm
     · intro x Jo;rw[AR l k 0 Yu,List.mem_append] at Jo;rcases Jo with h2 | h2
       · have:=hx x h2;split<;>omega
       · rw[List.mem_singleton.1 h2];split<;>omega
 unfold UO;rw[decide_eq_false (by omega),cond_false,show A0 l 0=some (l.getD 0 0) from AU l 0 0 (by omega),Option.bind_some];obtain ⟨m',j,h2,h3,h4⟩:=key (l.length - 1) 1 (by omega) (by omega) (l.getD 0 0) (by
     rw[AR l 0 0 (by omega)];simp) (by rw[AR l 0 0 (by omega)];simp)
 exact ⟨m',by rw[show ((1:Int))=((1:Nat):Int) from rfl,h2,Option.bind_some],h3,h4⟩
def Sr.bx (g:List (List Int)) (sh:List Bool) (s:Sr) (P:List Nat) (pk:Nat):List D:=[.p (.sl (AM g)),.p (.sl (Bf sh)),.ref 1000001 0 s.seen.length s.seen.length,.ref 1000002 0 s.low.length s.low.length,.ref 1000003 0 s.at_.length s.at_.length,
 .ref 1000004 0 pk P.length,.ref 1000005 0 s.held.length s.held.length,.p (.int .i64 (s.count:Nat)),.ref 1000006 0 s.names.length s.names.length]
def C2 (l:List Int) (ws:List Nat) (x:Int):List Int:=ws.foldl (fun l w=>l.set w x) l
theorem FC (ws:List Nat) (l:List Int) (x:Int):(C2 l ws x).length=l.length:=by
 induction ws generalizing l with
 | nil=>rfl
 | cons w r ih=>simp only[C2,List.foldl_cons] at ih ⊢;rw[ih];simp
attribute [go_sem] FC
theorem Wt (l:List Int) (ws:List Nat) (w:Nat) (x:Int):C2 l (ws++[w]) x=(C2 l ws x).set w x:=by simp[C2,List.foldl_append]
theorem EO (g:List (List Int)) (sh:List Bool) (s:Sr) (P:List Nat) (pk i:Nat) (hi:i<s.held.length) (hl:s.held.length≤1000) (hn:∀j,j<i→s.held.getD j 0≠s.held.getD i 0) (hr:∀w∈s.held,w<s.names.length):
   Aj Tryz.prog 155 [.ptr 1000000 0,.p (.int .i64 (s.held.getD i 0:Nat))]
     [(1000000,.box (s.bx g sh P pk)),(1000001,.arr 3 1 (Ag (nI s.seen))),(1000002,.arr 3 1 (Ag (nI s.low))),(1000003,.arr 3 1 (Ag (nI s.at_))),(1000004,.arr 3 1 (Ag (nI P))),(1000005,.arr 3 1 (Ag (nI s.held))),(1000006,.arr 3 1 (Ag s.names))]
     fun h r=>∃m,(m∈nI (s.held.drop i)∧∀x∈nI (s.held.drop i),m≤x)∧h=[(1000000,.box [.p (.sl (AM g)),.p (.sl (Bf sh)),.ref 1000001 0 s.seen.length s.seen.length,.ref 1000002 0 s.low.length s.low.length,.ref 1000003 0 s.at_.length s.at_.length,
       .ref 1000004 0 pk P.length,.ref 1000005 0 i s.held.length,.p (.int .i64 (s.count:Nat)),.ref 1000006 0 s.names.length s.names.length]),
       (1000001,.arr 3 1 (Ag (nI s.seen))),(1000002,.arr 3 1 (Ag (nI s.low))),(1000003,.arr 3 1 (Ag (nI s.at_))),(1000004,.arr 3 1 (Ag (nI P))),(1000005,.arr 3 1 (Ag (nI s.held))),(1000006,.arr 3 1 (Ag (C2 s.names (s.held.drop i) m)))]∧r= .BA []:=by
 refine Ak Tryz.func155 rfl Acm (by simp[Tryz.f155]) ?_;unfold Sr.bx;have e1:=Aad (nI s.held) i (by rw[AQ];exact hi) (by rw[AQ];omega) (fun j hj=>by rw[B1,B1];have:=hn j hj;omega);rw[B1] at e1;obtain ⟨m,e2,Qw,Qg⟩:=Alm (nI (s.held.drop i)) (by rw[AQ];simp;omega) (by rw[AQ];simp;omega);simp only[go_sem];refine Pr rfl rfl (YM _ _ _ e1) (by simp[HI,P8,ev,get,AQ,Ag,List.take_of_length_le]) ?_;rintro h' r ⟨rfl,rfl⟩;refine ⟨rfl,rfl,?_⟩;simp only[go_sem];have f1:(0:Int)≤(i:Int)∧(i:Int)≤(s.held.length:Int):=by omega
 have f2:((s.held.length:Int) - (i:Int)).toNat=s.held.length - i:=by omega
 simp only[go_sem,f1,Int.toNat_natCast,Int.le_refl,f2];refine Pr rfl rfl (Aft _ _ e2) ?_ ?_
 · simp[HI,P8,ev,get,AQ,Ag,Am6,List.take_of_length_le];simp[nI,List.map_drop]
 rintro h' r ⟨rfl,rfl⟩;refine ⟨rfl,rfl,?_⟩;simp only[go_sem,f1,Int.toNat_natCast,Int.le_refl,f2];refine Ao (fun k=>⟨[(0,.ptr 1000000 0),(4,.p (.int .i64 (i:Nat))),(5,.p (.int .i64 m)),(26,.ref 1000005 i (s.held.length - i) s.held.length),(27,.p (.int .i64 ((s.held.length - i:Nat):Int))),(28,.p (.int .i64 (k:Nat)))],
     [(1000000,.box (s.bx g sh P pk)),(1000001,.arr 3 1 (Ag (nI s.seen))),(1000002,.arr 3 1 (Ag (nI s.low))),(1000003,.arr 3 1 (Ag (nI s.at_))),(1000004,.arr 3 1 (Ag (nI P))),(1000005,.arr 3 1 (Ag (nI s.held))),
      (1000006,.arr 3 1 (Ag (C2 s.names ((s.held.drop i).take k) m)))],49⟩) (fun k=>k≤s.held.length - i) (fun k=>s.held.length - i - k) 0 (Nat.zero_le _)
   ((Wk.forget (by simp[Le,AG,Av,get,Aa,Ac,Ad,D.ids,Ai,AO.ids,Ae,base,Sr.bx,C2]))) ?_
 rintro k n hk ih;unfold Sr.bx;cases c1:decide ((k:Int)<((s.held.length - i:Nat):Int))
 · have f3:((i:Int) - 0).toNat=i:=by omega
   obtain rfl:k=s.held.length - i:=by have:=of_decide_eq_false c1;omega
   simp only[go_sem,c1,f1,f3];refine Bc ?_;have f4:(s.held.drop i).take (s.held.length - i)=s.held.drop i:=List.take_of_length_le (by simp);simp only[go_sem,c1,f1,f3,f4];exact ⟨m,⟨Qw,Qg⟩,rfl⟩
 · have HL:k<s.held.length - i:=by simpa using of_decide_eq_true c1
   have f4:(0:Int)≤(k:Int)∧(k:Int)<((s.held.length - i:Nat):Int):=by omega
   have g1:=AD (nI s.held) (i+k) (by rw[AQ];omega);rw[B1] at g1;have hw:=hr _ (A7 s.held (i+k) 0 (by omega));have f5:(0:Int)≤((s.held.getD (i+k) 0:Nat):Int)∧((s.held.getD (i+k) 0:Nat):Int)<(s.names.length:Int):=by omega
   have f6:IntKind.i64.wrap ((k:Int)+1)=((k+1:Nat):Int):=AZ (by omega);have g2:=AD (C2 s.names ((s.held.drop i).take k) m) (s.held.getD (i+k) 0) (by rw[FC];exact hw);simp only[go_sem,c1,f4,g1,g2,f5,Int.toNat_natCast,f6];refine ih (k+1) _ (by omega) (by omega) ?_;have hd:(s.held.drop i).take (k+1)=(s.held.drop i).take k++[s.held.getD (i+k) 0]:=by
     rw[AR (s.held.drop i) k 0 (by simp;omega)];simp[List.getD]
   rw[hd,Wt];exact (Wk.forget (by simp[Le,AG,Av,get,Aa,Ac,Ad,D.ids,Ai,AO.ids,Ae,base,Sr.bx,Bt]))
structure FB where
 VU:Nat
 s:Sr
 v:Nat
 p1:Nat
 p2:Nat
def FB.st (g:List (List Int)) (sh:List Bool) (b:FB):St:=⟨[(0,.ptr 1000000 0),(1,.p (.int .i64 (b.v:Nat)))],[
 (1000000,.box [.p (.sl (AM g)),.p (.sl (Bf sh)),.ref 1000001 0 b.s.seen.length b.s.seen.length,.ref 1000002 0 b.s.low.length b.s.low.length,.ref 1000003 0 b.s.at_.length b.s.at_.length,.ref 500005 0 b.s.path.length b.s.path.length,.ref 500006 0 b.s.held.length b.s.held.length,.p (.int .i64 (b.s.count:Nat)),.ref 1000006 0 b.s.names.length b.s.names.length]),(1000001,.arr 3 1 (Ag (nI b.s.seen))),(1000002,.arr 3 1 (Ag (nI b.s.low))),(1000003,.arr 3 1 (Ag (nI b.s.at_))),(1000004,.Df (DD 1 b.p1)),(1000005,.Df (DD 1 b.p2)),(1000006,.arr 3 1 (Ag b.s.names))
 ,(500005,.arr 3 1 (Ag (nI b.s.path))),(500006,.arr 3 1 (Ag (nI b.s.held)))],210⟩
theorem An7 (P:List Nat) (k:Nat):(Ag (nI P)).take k=Ag (nI (P.take k)):=by rw[JB,Am4]
theorem Ak2 (P:List Nat) (k:Nat) (h:k≤P.length):(Ag (nI (P.take k))).take k=Ag (nI (P.take k)):=List.take_of_length_le (by rw[Ab,AQ];simp;omega)
theorem Ql (g:List (List Int)) (sh:List Bool) (p1 p2 VU:Nat) (se lo ad P H:List Nat) (pk hk cn:Nat) (nm:List Int) (v:Nat) (hpk:pk≤P.length) (hhk:hk≤H.length):
   Wk ⟨[(0,.ptr 1000000 0),(1,.p (.int .i64 (v:Nat)))],[
     (1000000,.box [.p (.sl (AM g)),.p (.sl (Bf sh)),.ref 1000001 0 se.length se.length,.ref 1000002 0 lo.length lo.length,.ref 1000003 0 ad.length ad.length,.ref 500005 0 pk P.length,.ref 500006 0 hk H.length,.p (.int .i64 (cn:Nat)),.ref 1000006 0 nm.length nm.length]),(1000001,.arr 3 1 (Ag (nI se))),(1000002,.arr 3 1 (Ag (nI lo))),(1000003,.arr 3 1 (Ag (nI ad))),(1000004,.Df (DD 1 p1)),(1000005,.Df (DD 1 p2)),(1000006,.arr 3 1 (Ag nm))
     ,(500005,.arr 3 1 (Ag (nI P))),(500006,.arr 3 1 (Ag (nI H)))],210⟩ (FB.st g sh ⟨VU,⟨se,lo,ad,P.take pk,H.take hk,cn,nm⟩,v,p1,p2⟩):=by
 have l1:(P.take pk).length=pk:=by simp;omega
 have l2:(H.take hk).length=hk:=by simp;omega
 refine (Wk.FV (id:=1000000) (j:=5) (q:=500005) (k:=pk) (es:=Ag (nI P)) 600005 rfl (by simp[AQ,Ab]) rfl (by rw[Ab,AQ];exact hpk) rfl).trans ?_;refine (Wk.forget (st1:=⟨[(0,.ptr 1000000 0),(1,.p (.int .i64 (v:Nat)))],[
     (1000000,.box [.p (.sl (AM g)),.p (.sl (Bf sh)),.ref 1000001 0 se.length se.length,.ref 1000002 0 lo.length lo.length,.ref 1000003 0 ad.length ad.length,.ref 600005 0 (P.take pk).length (P.take pk).length,.ref 500006 0 hk H.length,.p (.int .i64 (cn:Nat)),.ref 1000006 0 nm.length nm.length]),(1000001,.arr 3 1 (Ag (nI se))),(1000002,.arr 3 1 (Ag (nI lo))),(1000003,.arr 3 1 (Ag (nI ad))),(1000004,.Df (DD 1 p1)),(1000005,.Df (DD 1 p2)),(1000006,.arr 3 1 (Ag nm))
     ,(600005,.arr 3 1 (Ag (nI (P.take pk)))),(500006,.arr 3 1 (Ag (nI H)))],210⟩) (by simp[Le,AG,Av,get,Aa,Ac,Ad,D.ids,Ai,AO.ids,Ae,base,An7,l1,l2])).trans ?_
 refine (Wk.FV (id:=1000000) (j:=5) (q:=600005) (k:=pk) (es:=Ag (nI (P.take pk))) 500005 rfl (by simp[AQ,Ab,l1]) rfl (by rw[Ab,AQ,l1];exact Nat.le_refl _) rfl).trans ?_;refine (Wk.FV (id:=1000000) (j:=6) (q:=500006) (k:=hk) (es:=Ag (nI H)) 600006 rfl (by simp[AQ,Ab]) rfl (by rw[Ab,AQ];exact hhk) rfl).trans ?_;refine (Wk.forget (st1:=⟨[(0,.ptr 1000000 0),(1,.p (.int .i64 (v:Nat)))],[
     (1000000,.box [.p (.sl (AM g)),.p (.sl (Bf sh)),.ref 1000001 0 se.length se.length,.ref 1000002 0 lo.length lo.length,.ref 1000003 0 ad.length ad.length,.ref 500005 0 (P.take pk).length (P.take pk).length,.ref 600006 0 (H.take hk).length (H.take hk).length,.p (.int .i64 (cn:Nat)),.ref 1000006 0 nm.length nm.length]),(1000001,.arr 3 1 (Ag (nI se))),(1000002,.arr 3 1 (Ag (nI lo))),(1000003,.arr 3 1 (Ag (nI ad))),(1000004,.Df (DD 1 p1)),(1000005,.Df (DD 1 p2)),(1000006,.arr 3 1 (Ag nm))
     ,(500005,.arr 3 1 (Ag (nI (P.take pk)))),(600006,.arr 3 1 (Ag (nI (H.take hk))))],210⟩) (by simp[Le,AG,Av,get,Aa,Ac,Ad,D.ids,Ai,AO.ids,Ae,base,An7,Ak2 P pk hpk,l1,l2])).trans ?_
 refine (Wk.FV (id:=1000000) (j:=6) (q:=600006) (k:=hk) (es:=Ag (nI (H.take hk))) 500006 rfl (by simp[AQ,Ab,l2]) rfl (by rw[Ab,AQ,l2];exact Nat.le_refl _) rfl).trans ?_;exact (Wk.forget (by simp[Le,AG,Av,get,Aa,Ac,Ad,D.ids,Ai,AO.ids,Ae,base,FB.st,An7,Ak2 P pk hpk,Ak2 H hk hhk,l1,l2]))
theorem Ae5 (g:List (List Int)) (sh:List Bool) (_p1 _p2 VU:Nat) (se lo ad P H:List Nat) (pk hk cn:Nat) (nm:List Int) (v:Nat) (hpk:pk≤P.length) (hhk:hk≤H.length):
   Wk ⟨[(0,.ptr 1000000 0),(1,.p (.int .i64 (v:Nat)))],[
     (1000000,.box [.p (.sl (AM g)),.p (.sl (Bf sh)),.ref 1000001 0 se.length se.length,.ref 1000002 0 lo.length lo.length,.ref 1000003 0 ad.length ad.length,.ref 1000004 0 pk P.length,.ref 1000005 0 hk H.length,.p (.int .i64 (cn:Nat)),.ref 1000006 0 nm.length nm.length]),(1000001,.arr 3 1 (Ag (nI se))),(1000002,.arr 3 1 (Ag (nI lo))),(1000003,.arr 3 1 (Ag (nI ad))),(1000004,.arr 3 1 (Ag (nI P))),(1000005,.arr 3 1 (Ag (nI H))),(1000006,.arr 3 1 (Ag nm))
     ],210⟩ (FB.st g sh ⟨VU,⟨se,lo,ad,P.take pk,H.take hk,cn,nm⟩,v,P.length+1,H.length+1⟩):=by
 have l1:(P.take pk).length=pk:=by simp;omega
 have l2:(H.take hk).length=hk:=by simp;omega
 refine (Wk.FV (id:=1000000) (j:=5) (q:=1000004) (k:=pk) (es:=Ag (nI P)) 500005 rfl (by simp[AQ,Ab]) rfl (by rw[Ab,AQ];exact hpk) rfl).trans ?_;refine (Wk.FV (id:=1000000) (j:=6) (q:=1000005) (k:=hk) (es:=Ag (nI H)) 500006 rfl (by simp[AQ,Ab]) rfl (by rw[Ab,AQ];exact hhk) rfl).trans ?_;exact (Wk.forget (by simp[Le,AG,Av,get,Aa,Ac,Ad,D.ids,Ai,AO.ids,Ae,base,FB.st,An7,l1,l2,AQ,Ab]))
structure FI (g:List (List Int)) (sh:List Bool) (s0:Sr) (v0:Nat) (b:FB):Prop where
 tj:TJ g sh (if b.VU=0 then fun w=>w=b.v else Nx) b.s
 cu:b.s.count+JP g b.s=g.length
 mo:∀x,s0.sn x≠0→b.s.sn x≠0
 v0:b.s.sn v0≠0
 at0:b.VU=0→b.v<g.length∧sh.getD b.v false=false∧b.s.sn b.v=0∧∀p∈b.s.path,Mf g sh p b.v
 ZX:b.VU≠0→b.VU=1∧∃ps,b.s.path=ps++[b.v]
 pl:b.s.path.length+JP g b.s≤g.length
 hl:b.s.held.length+JP g b.s≤g.length
theorem TJ.SQ {g:List (List Int)} {sh:List Bool} {s:Sr} (h:TJ g sh Nx s) (p:Nat→Prop):TJ g sh p s:=
 ⟨h.l1,h.l2,h.l3,h.l4,h.rng,h.cnt,h.inj,h.VT,h.at0,h.atl,h.Lw,h.hso,h.SE,h.pso,h.nms,h.nmc,h.fin,fun x hx k hk w hw ho=>⟨fun e=>((h.edg x hx k hk w hw ho).1 e).elim,(h.edg x hx k hk w hw ho).2⟩,h.low,h.rch,h.own,h.anc,h.nmx⟩
def Sr.inc (s:Sr) (v:Nat):Sr:={s with at_:=s.at_.set v (s.ad v+1)}
def Sr.n9 (s:Sr) (v L:Nat):Sr:={s with low:=s.low.set v L}
theorem Zj {s:Sr} {v:Nat} (hv:v<s.at_.length) (x:Nat):(s.inc v).ad x=if x=v then s.ad v+1 else s.ad x:=DU _ _ _ _ _ hv
theorem Apv {s:Sr} {v L:Nat} (hv:v<s.low.length) (x:Nat):(s.n9 v L).lw x=if x=v then L else s.lw x:=DU _ _ _ _ _ hv
section
variable {g:List (List Int)} {sh:List Bool} {s0 s:Sr} {v0 v w p1 p2:Nat}
theorem FI.Abn (h:FI g sh s0 v0 ⟨1,s,v,p1,p2⟩) (hk:s.ad v<(g.getD v []).length) (hw:(g.getD v []).getD (s.ad v) 0=(w:Int)) (hq:sh.getD w false=false→s.sn w≠0∧w∉s.held) (q1 q2:Nat):
   FI g sh s0 v0 ⟨1,s.inc v,v,q1,q2⟩∧FM g (s.inc v)<FM g s:=by
 obtain ⟨tj,cu,mo,UE,_,ZX,pl,hl⟩:=h;simp only at pl hl;obtain ⟨_,ps,hp⟩:=ZX (show (1:Nat)≠0 by decide)
 replace tj:TJ g sh Nx s:=tj
 replace hp:s.path=ps++[v]:=hp
 obtain ⟨Zo,Om,LU,_⟩:=tj.last hp;have e3:=Zj (s:=s) (v:=v) (by rw[tj.l3];exact LU);have h1:TJ g sh Nx (s.inc v):=tj.step (L:=s.lw v) hp hk hw rfl (fun x=>by show s.lw x=_;split<;>simp_all) rfl e3 (by simp[Sr.inc]) rfl rfl rfl rfl (Nat.le_refl _) (tj.low v Om).2
   fun ho=>⟨fun e=>absurd e (hq ho).1,fun hm=>absurd hm (hq ho).2⟩
 have h2:=OH (g:=g) (s:=s) (s':=s.inc v) LU hk e3;have h3:JP g (s.inc v)=JP g s:=FY rfl;refine ⟨⟨h1,by show s.count+_=_;rw[h3];exact cu,mo,UE,fun h=>absurd h (show (1:Nat)≠0 by decide),fun _=>⟨rfl,ps,hp⟩,by rw[h3];exact pl,by rw[h3];exact hl⟩,?_⟩;unfold FM;rw[h3];show _+_+s.path.length<_;omega
theorem FI.Aq0 (h:FI g sh s0 v0 ⟨1,s,v,p1,p2⟩) (hk:s.ad v<(g.getD v []).length) (hw:(g.getD v []).getD (s.ad v) 0=(w:Int)) (hwn:w<g.length) (ho:sh.getD w false=false) (hs:s.sn w=0) (q1 q2:Nat):
   FI g sh s0 v0 ⟨0,s.inc v,w,q1,q2⟩∧FM g (s.inc v)<FM g s:=by
 obtain ⟨tj,cu,mo,UE,_,ZX,pl,hl⟩:=h;simp only at pl hl;obtain ⟨_,ps,hp⟩:=ZX (show (1:Nat)≠0 by decide)
 replace tj:TJ g sh Nx s:=tj
 replace hp:s.path=ps++[v]:=hp
 obtain ⟨Zo,Om,LU,_⟩:=tj.last hp;have e3:=Zj (s:=s) (v:=v) (by rw[tj.l3];exact LU);have hwh:w∉s.held:=fun hm=>((tj.Lw w).1 hm).1 hs;have h1:TJ g sh (fun x=>x=w) (s.inc v):=tj.step (L:=s.lw v) hp hk hw rfl (fun x=>by show s.lw x=_;split<;>simp_all) rfl e3 (by simp[Sr.inc]) rfl rfl rfl rfl (Nat.le_refl _) (tj.low v Om).2
   fun _=>⟨fun _=>rfl,fun hm=>absurd hm hwh⟩
 have h2:=OH (g:=g) (s:=s) (s':=s.inc v) LU hk e3;have h3:JP g (s.inc v)=JP g s:=FY rfl;have he:Ed g sh v w:=⟨by rw[←hw,getD_eq hk];exact List.getElem_mem hk,ho⟩;refine ⟨⟨h1,by show s.count+_=_;rw[h3];exact cu,mo,UE,fun _=>⟨hwn,ho,hs,fun p Jq=>?_⟩,fun h=>absurd rfl h,by rw[h3];exact pl,by rw[h3];exact hl⟩,?_⟩
 · exact (tj.rch p Jq v Om ((tj.last hp).2.2.2.2.1 p Jq)).tail he
 · unfold FM;rw[h3];show _+_+s.path.length<_;omega
theorem FI.Apz (h:FI g sh s0 v0 ⟨1,s,v,p1,p2⟩) (hk:s.ad v<(g.getD v []).length) (hw:(g.getD v []).getD (s.ad v) 0=(w:Int)) (ho:sh.getD w false=false) (hs:s.sn w≠0) (hn:s.nm w<0) (q1 q2:Nat):
   FI g sh s0 v0 ⟨1,(s.inc v).n9 v (min (s.lw v) (s.sn w)),v,q1,q2⟩∧FM g ((s.inc v).n9 v (min (s.lw v) (s.sn w)))<FM g s:=by
 obtain ⟨tj,cu,mo,UE,_,ZX,pl,hl⟩:=h;simp only at pl hl;obtain ⟨_,ps,hp⟩:=ZX (show (1:Nat)≠0 by decide)
 replace tj:TJ g sh Nx s:=tj
 replace hp:s.path=ps++[v]:=hp
 obtain ⟨Zo,Om,LU,_⟩:=tj.last hp;have e3:=Zj (s:=s) (v:=v) (by rw[tj.l3];exact LU);have hwh:w∈s.held:=(tj.Lw w).2 ⟨hs,hn⟩;have he:Ed g sh v w:=⟨by rw[←hw,getD_eq hk];exact List.getElem_mem hk,ho⟩;obtain ⟨_,u,Dr,KL,hu3⟩:=tj.low v Om;have h1:TJ g sh Nx ((s.inc v).n9 v (min (s.lw v) (s.sn w))):=tj.step (L:=min (s.lw v) (s.sn w)) hp hk hw rfl (fun x=>Apv (s:=s.inc v) (by show v<s.low.length;rw[tj.l2];exact LU) x) (by simp[Sr.n9,Sr.inc]) e3 (by simp[Sr.inc,Sr.n9]) rfl rfl rfl rfl (Nat.min_le_left _ _)
   (by
     rcases Nat.le_total (s.lw v) (s.sn w) with h4 | h4
     · exact ⟨u,Dr,by rw[Nat.min_eq_left h4];exact KL,hu3⟩
     · exact ⟨w,hwh,by rw[Nat.min_eq_right h4],(Mf.refl v).tail he⟩)
   fun _=>⟨fun e=>absurd e hs,fun _=>Nat.min_le_right _ _⟩
 have h2:=OH (g:=g) (s:=s) (s':=(s.inc v).n9 v (min (s.lw v) (s.sn w))) LU hk e3;have h3:JP g ((s.inc v).n9 v (min (s.lw v) (s.sn w)))=JP g s:=FY rfl;refine ⟨⟨h1,by show s.count+_=_;rw[h3];exact cu,mo,UE,fun h=>absurd h (show (1:Nat)≠0 by decide),fun _=>⟨rfl,ps,hp⟩,by rw[h3];exact pl,by rw[h3];exact hl⟩,?_⟩;unfold FM;rw[h3];show _+_+s.path.length<_;omega
theorem YL (ws:List Nat) (m:Int):∀(l:List Int) (x:Nat) (d:Int),(∀w∈ws,w<l.length)→(C2 l ws m).getD x d=if x∈ws then m else l.getD x d:=by
 induction ws with
 | nil=>intro l x d _;simp[C2]
 | cons w r ih=>
   intro l x d h;have:=ih (l.set w m) x d (fun y hy=>by rw[List.length_set];exact h y (by simp[hy]));simp only[C2,List.foldl_cons] at this ⊢;rw[this,DU _ _ _ _ _ (h w (by simp))];by_cases h1:x∈r
   · simp[h1]
   · by_cases h2:x=w
     · simp[h1,h2]
     · simp[h1,h2]
theorem Js (tj:TJ g sh Nx s) {i:Nat} (hi:i<s.held.length) (hv:s.held.getD i 0=v):(∀x,x∈s.held.take i↔x∈s.held∧s.sn x<s.sn v)∧(∀x,x∈s.held.drop i↔x∈s.held∧s.sn v≤s.sn x)∧∀j,j<i→s.held.getD j 0≠s.held.getD i 0:=by
 have hso:=List.pairwise_iff_getElem.1 tj.hso;have Qu:s.held[i]=v:=by rw[←hv,getD_eq hi]
 have lt:∀a b (ha:a<s.held.length) (hb:b<s.held.length),a<b→s.sn s.held[a] <s.sn s.held[b]:=fun a b ha hb Vq=>hso a b ha hb Vq;refine ⟨fun x=>⟨fun hx=>?_,fun ⟨h1,h2⟩=>?_⟩,fun x=>⟨fun hx=>?_,fun ⟨h1,h2⟩=>?_⟩,fun j hj e=>?_⟩
 · obtain ⟨k,hk,rfl⟩:=List.mem_iff_getElem.1 hx;rw[List.getElem_take];have HL:k<i:=by simp at hk;omega
   exact ⟨List.getElem_mem _,by rw[←Qu];exact lt k i (by omega) hi HL⟩
 · obtain ⟨k,hk,rfl⟩:=List.mem_iff_getElem.1 h1;rcases Nat.lt_or_ge k i with h3 | h3
   · exact List.mem_iff_getElem.2 ⟨k,by simp;omega,by rw[List.getElem_take]⟩
   · rcases Nat.eq_or_lt_of_le h3 with h4 | h4
     · subst h4;rw[Qu] at h2;omega
     · have:=lt i k hi hk h4;rw[Qu] at this;omega
 · obtain ⟨k,hk,rfl⟩:=List.mem_iff_getElem.1 hx;rw[List.getElem_drop];have HL:i+k<s.held.length:=by simp at hk;omega
   refine ⟨List.getElem_mem _,?_⟩;rcases Nat.eq_zero_or_pos k with h4 | h4
   · subst h4;simp only[Nat.add_zero];rw[Qu];exact Nat.le_refl _
   · have:=lt i (i+k) hi HL (by omega);rw[Qu] at this;omega
 · obtain ⟨k,hk,rfl⟩:=List.mem_iff_getElem.1 h1;rcases Nat.lt_or_ge k i with h3 | h3
   · have:=lt k i hk hi h3;rw[Qu] at this;omega
   · exact List.mem_iff_getElem.2 ⟨k - i,by simp;omega,by rw[List.getElem_drop];congr 1;omega⟩
 · rw[getD_eq (show j<s.held.length by omega),getD_eq hi] at e;have:=lt j i (by omega) hi hj;rw[e] at this;omega
def Sr.Qa (s:Sr) (ps:List Nat) (t L:Nat):Sr:={s with path:=ps,low:=s.low.set t L}
def Sr.FE (s:Sr) (ps:List Nat) (i:Nat) (m:Int):Sr:={s with path:=ps,held:=s.held.take i,names:=C2 s.names (s.held.drop i) m}
theorem TJ.FE (tj:TJ g sh Nx s) {ps:List Nat} (hp:s.path=ps++[v]) (ha:s.ad v=(g.getD v []).length) (hl:s.lw v=s.sn v) {i:Nat} (hi:i<s.held.length) (hv:s.held.getD i 0=v) {m:Int} (hm:m∈nI (s.held.drop i)) (Qf:∀x∈nI (s.held.drop i),m≤x):
   TJ g sh Nx (s.FE ps i m):=by
 obtain ⟨a1,a2,_⟩:=Js tj hi hv;obtain ⟨y0,Yj,rfl⟩:∃y0:Nat,y0∈s.held.drop i∧m=(y0:Int):=by
   simp only[nI,List.mem_map] at hm;obtain ⟨y,h1,h2⟩:=hm;exact ⟨y,h1,h2.symm⟩
 refine tj.complete (s':=s.FE ps i (y0:Int)) hp ha hl ((a2 y0).1 Yj) (fun z hz1 hz2=>?_) rfl rfl rfl rfl a1 (tj.hso.sublist (List.take_sublist _ _)) rfl (fun x=>?_) (by simp[Sr.FE,FC])
 · have:=Qf (z:Int) ((Apt _ z).2 ((a2 z).2 ⟨hz1,hz2⟩));omega
 · have h1:=YL (s.held.drop i) (y0:Int) s.names x (-1) (fun w hw=>by rw[tj.l4];exact (tj.VT w ((tj.Lw w).1 ((a2 w).1 hw).1).1).1)
   show (C2 s.names (s.held.drop i) (y0:Int)).getD x (-1)=_
   rw[h1];by_cases h2:x∈s.held.drop i
   · rw[if_pos h2,if_pos ((a2 x).1 h2)]
   · rw[if_neg h2,if_neg (fun h=>h2 ((a2 x).2 h))];rfl
theorem FI.back (h:FI g sh s0 v0 ⟨1,s,v,p1,p2⟩) {ps:List Nat} {t:Nat} (hp:s.path=ps++[t]++[v]) (ha:s.ad v=(g.getD v []).length) (hl:s.lw v≠s.sn v) (q1 q2:Nat):
   FI g sh s0 v0 ⟨1,s.Qa (ps++[t]) t (min (s.lw t) (s.lw v)),t,q1,q2⟩∧FM g (s.Qa (ps++[t]) t (min (s.lw t) (s.lw v)))<FM g s:=by
 obtain ⟨tj,cu,mo,UE,_,ZX,pl,p7⟩:=h;simp only at pl p7
 replace tj:TJ g sh Nx s:=tj
 have htp:t∈s.path:=by rw[hp];simp
 have htn:=(tj.VT t ((tj.Lw t).1 (tj.SE t htp)).1).1;have h1:TJ g sh Nx (s.Qa (ps++[t]) t (min (s.lw t) (s.lw v))):=tj.back hp ha hl rfl (fun x=>DU _ _ _ _ _ (by rw[tj.l2];exact htn)) (by simp[Sr.Qa]) rfl rfl rfl rfl rfl;have h2:OJ g (s.Qa (ps++[t]) t (min (s.lw t) (s.lw v)))=OJ g s:=OI rfl;have h3:JP g (s.Qa (ps++[t]) t (min (s.lw t) (s.lw v)))=JP g s:=FY rfl;have h4:s.path.length=(ps++[t]).length+1:=by rw[hp];simp
 refine ⟨⟨h1,by show s.count+_=_;rw[h3];exact cu,mo,UE,fun h=>absurd h (show (1:Nat)≠0 by decide),fun _=>⟨rfl,ps,rfl⟩,by rw[h3];show (ps++[t]).length+_≤_;omega,by rw[h3];exact p7⟩,?_⟩;unfold FM;rw[h2,h3];show _+_+(ps++[t]).length<_;omega
theorem FI.comp (h:FI g sh s0 v0 ⟨1,s,v,p1,p2⟩) {ps:List Nat} {t:Nat} (hp:s.path=ps++[t]++[v]) (ha:s.ad v=(g.getD v []).length) (hl:s.lw v=s.sn v) {i:Nat} (hi:i<s.held.length) (hv:s.held.getD i 0=v) {m:Int} (hm:m∈nI (s.held.drop i)) (Qf:∀x∈nI (s.held.drop i),m≤x) (q1 q2:Nat):
   FI g sh s0 v0 ⟨1,s.FE (ps++[t]) i m,t,q1,q2⟩∧FM g (s.FE (ps++[t]) i m)<FM g s∧min (s.lw t) (s.lw v)=s.lw t:=by
 obtain ⟨tj,cu,mo,UE,_,ZX,pl,p7⟩:=h;simp only at pl p7
 replace tj:TJ g sh Nx s:=tj
 have h1:=tj.FE hp ha hl hi hv hm Qf;have htp:t∈s.path:=by rw[hp];simp
 have AL:=(tj.last hp).2.2.2.2.2.1 t (by simp);have Yt:=(tj.low t (tj.SE t htp)).1;have h2:OJ g (s.FE (ps++[t]) i m)=OJ g s:=OI rfl;have h3:JP g (s.FE (ps++[t]) i m)=JP g s:=FY rfl;have h4:s.path.length=(ps++[t]).length+1:=by rw[hp];simp
 have h5:(s.held.take i).length≤s.held.length:=by simp;omega
 refine ⟨⟨h1,by show s.count+_=_;rw[h3];exact cu,mo,UE,fun h=>absurd h (show (1:Nat)≠0 by decide),fun _=>⟨rfl,ps,rfl⟩,by rw[h3];show (ps++[t]).length+_≤_;omega,by rw[h3];show (s.held.take i).length+_≤_;omega⟩,?_,by omega⟩;unfold FM;rw[h2,h3];show _+_+(ps++[t]).length<_;omega
theorem K3 (hv:v<g.length) (hl:s.seen.length=g.length) (h0:s.sn v=0):FM g (s.enter v)<FM g s∧(s.enter v).count+JP g (s.enter v)=s.count+JP g s∧JP g (s.enter v)+1=JP g s:=by
 have h1:=Aa2 hv hl h0;have h2:OJ g (s.enter v)=OJ g s:=OI rfl;have h3:(s.enter v).path.length=s.path.length+1:=by simp[Sr.enter]
 have h4:(s.enter v).count=s.count+1:=rfl;refine ⟨?_,by omega,h1⟩;unfold FM;omega
theorem FI.enter (tj:TJ g sh (fun w=>w=v) s) (cu:s.count+JP g s=g.length) (mo:∀x,s0.sn x≠0→s.sn x≠0) (Qv:v0=v∨s.sn v0≠0) (hv:v<g.length) (ho:sh.getD v false=false) (h0:s.sn v=0) (hp:∀p∈s.path,Mf g sh p v)
   (pl:s.path.length+JP g s≤g.length) (p7:s.held.length+JP g s≤g.length) (q1 q2:Nat):FI g sh s0 v0 ⟨1,s.enter v,v,q1,q2⟩:=by
 obtain ⟨_,h2,h3⟩:=K3 hv tj.l1 h0;have Cy:∀w,(s.enter v).sn w=if w=v then s.count+1 else s.sn w:=fun w=>DU _ _ _ _ _ (by rw[tj.l1];exact hv)
 refine ⟨tj.enter hv ho h0 hp,by show (s.enter v).count+JP g (s.enter v)=g.length;omega,fun x hx=>?_,?_,fun h=>absurd h (show (1:Nat)≠0 by decide),fun _=>⟨rfl,s.path,rfl⟩,?_,?_⟩
 · show (s.enter v).sn x≠0
   rw[Cy];split
   · omega
   · exact mo x hx
 · show (s.enter v).sn v0≠0
   rw[Cy];split
   · omega
   · rcases Qv with h | h
     · contradiction
     · exact h
 · show (s.enter v).path.length+_≤_
   simp only[Sr.enter,List.length_append,List.length_cons,List.length_nil] at h3 ⊢;omega
 · show (s.enter v).held.length+_≤_
   simp only[Sr.enter,List.length_append,List.length_cons,List.length_nil] at h3 ⊢;omega
end
def Aug (g:List (List Int)) (sh:List Bool) (s0:Sr) (v0:Nat) (h:Hp):Prop:=∃(s:Sr) (P H:List Nat),TJ g sh Nx s∧s.path=[]∧s.held=[]∧s.count+JP g s=g.length∧(∀x,s0.sn x≠0→s.sn x≠0)∧s.sn v0≠0∧
 (h=[(1000000,.box [.p (.sl (AM g)),.p (.sl (Bf sh)),.ref 1000001 0 g.length g.length,.ref 1000002 0 g.length g.length,.ref 1000003 0 g.length g.length,.ref 1000004 0 0 P.length,.ref 1000005 0 0 H.length,.p (.int .i64 (s.count:Nat)),.ref 1000006 0 g.length g.length]),(1000001,.arr 3 1 (Ag (nI s.seen))),(1000002,.arr 3 1 (Ag (nI s.low))),(1000003,.arr 3 1 (Ag (nI s.at_))),
   (1000004,.arr 3 1 (Ag (nI P))),(1000005,.arr 3 1 (Ag (nI H))),(1000006,.arr 3 1 (Ag s.names))]∨
  ∃p1 p2,h=[(1000000,.box [.p (.sl (AM g)),.p (.sl (Bf sh)),.ref 1000001 0 g.length g.length,.ref 1000002 0 g.length g.length,.ref 1000003 0 g.length g.length,.ref 0 0 0 P.length,.ref 1 0 0 H.length,.p (.int .i64 (s.count:Nat)),.ref 1000006 0 g.length g.length]),(1000001,.arr 3 1 (Ag (nI s.seen))),(1000002,.arr 3 1 (Ag (nI s.low))),(1000003,.arr 3 1 (Ag (nI s.at_))),
   (1000004,.Df (DD 1 p1)),(1000005,.Df (DD 1 p2)),(1000006,.arr 3 1 (Ag s.names)),(0,.arr 3 1 (Ag (nI P))),(1,.arr 3 1 (Ag (nI H)))])
end Go.Am
end
