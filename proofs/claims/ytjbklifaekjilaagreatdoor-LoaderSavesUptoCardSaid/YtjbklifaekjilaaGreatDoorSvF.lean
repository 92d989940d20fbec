/- Texts of this proof, what it rests on, merged: part F. -/
import Derived.Lib.Bytealg
import Derived.Laws.Externs
import Derived.Test.YtjbklifaekjilaaGreatDoorSvE
section
namespace Go.Am
open Go Go.Proofs
set_option maxRecDepth 100000
set_option linter.unusedVariables false
set_option linter.unusedSimpArgs false
set_option maxHeartbeats 2000000
def BR (c:UInt8):List UInt8→List (List UInt8)
 | []=>[[]]
 | b::r=>if b=c then []::BR c r else match BR c r with
   | []=>[[b]]
   | x::xs=>(b::x)::xs
theorem Aa9 (c:UInt8) (l:List UInt8):BR c l≠[]:=by
 cases l with
 | nil=>simp[BR]
 | cons b r=>
   simp only[BR];split
   · simp
   · split<;>simp
theorem I5 (c:UInt8) (l:List UInt8):(BR c l).length=l.count c+1:=by
 induction l with
 | nil=>simp[BR]
 | cons b r ih=>
   simp only[BR];split
   · rename_i h;subst h;simp[ih]
   · rename_i h;rw[List.count_cons_of_ne h];cases hs:BR c r with
     | nil=>exact (Aa9 c r hs).elim
     | cons x xs=>rw[hs] at ih;simpa using ih
theorem Hq (c:UInt8):∀(l:List UInt8),(Lib.indexByte l c=-1∧BR c l=[l])∨∃m:Nat,Lib.indexByte l c=(m:Int)∧m<l.length∧BR c l=l.take m::BR c (l.drop (m+1))
 | []=> .inl ⟨rfl,rfl⟩
 | b::r=>by
   simp only[Lib.indexByte];by_cases h:b=c
   · subst h;exact .inr ⟨0,by simp,by simp,by simp[BR]⟩
   · rcases Hq c r with ⟨h1,h2⟩ | ⟨m,h1,h2,h3⟩
     · refine .inl ⟨by simp[h,h1],by simp[BR,h,h2]⟩
     · refine .inr ⟨m+1,by simp[h,h1],by simp;omega,by simp[BR,h,h3]⟩
theorem Amf (l:List UInt8) (c:Int):Aj Tryz.prog 195 [.p (.str l),.p (.int .u8 c)] [] fun h r=>h=[]∧r= .p (.int .i64 (Lib.indexByte l c.toNat.toUInt8)):=by
 refine SC (run_callFunc_extern Tryz.func195 (by kernel_rfl) (by kernel_rfl) (by kernel_rfl) (e:=Extern.BytealgIndexByte.indexByte) (by kernel_rfl)) ?_;intro vs w F M hd;obtain ⟨hl,h⟩:=hd;obtain ⟨v1,v2,rfl⟩:∃v1 v2,vs=#[v1,v2]:=by
   match vs,hl with
   | ⟨[v1,v2]⟩,_=>exact ⟨v1,v2,rfl⟩
 have h1:=h 0 _ rfl;have h2:=h 1 _ rfl;simp only[List.getD_cons_zero,List.getD_cons_succ] at h1 h2;cases h1 with | p h1=>cases h1 with | str=>
 cases h2 with | p h2=>cases h2 with | int=>
 exact ⟨_,_,Lib.run_indexByteString _ _ _,.p (.int _ _),rfl,rfl⟩
theorem An9 (l:List UInt8) (c:Int):Aj Tryz.prog 168 [.p (.str l),.p (.int .u8 c)] [] fun h r=>h=[]∧r= .p (.int .i64 (Lib.countByte l c.toNat.toUInt8:Nat)):=by
 refine SC (run_callFunc_extern Tryz.func168 (by kernel_rfl) (by kernel_rfl) (by kernel_rfl) (e:=Extern.BytealgCount.count) (by kernel_rfl)) ?_;intro vs w F M hd;obtain ⟨hl,h⟩:=hd;obtain ⟨v1,v2,rfl⟩:∃v1 v2,vs=#[v1,v2]:=by
   match vs,hl with
   | ⟨[v1,v2]⟩,_=>exact ⟨v1,v2,rfl⟩
 have h1:=h 0 _ rfl;have h2:=h 1 _ rfl;simp only[List.getD_cons_zero,List.getD_cons_succ] at h1 h2;cases h1 with | p h1=>cases h1 with | str=>
 cases h2 with | p h2=>cases h2 with | int=>
 exact ⟨_,_,Lib.run_countString _ _ _,.p (.int _ _),rfl,rfl⟩
theorem Ao8 (c:UInt8):((c.toNat:Int)).toNat.toUInt8=c:=by simp
theorem Ak3 (l:List UInt8) (c:UInt8):Aj Tryz.prog 138 [.p (.str l),.p (.str [c])] [] fun h r=>h=[]∧r= .p (.int .i64 (l.count c:Nat)):=by
 refine Ak Tryz.func138 rfl Acw (by simp[Tryz.f138]) ?_;have h0:(0:Int)<1:=by decide
 simp only[go_sem,List.getD_cons_zero];refine Au (An9 l c.toNat) ?_;rintro h' r ⟨rfl,rfl⟩;simp only[go_sem,Ao8];rfl
theorem Abm (l:List UInt8) (c:UInt8):Aj Tryz.prog 169 [.p (.str l),.p (.str [c])] [] fun h r=>h=[]∧r= .p (.int .i64 (Lib.indexByte l c)):=by
 refine Ak Tryz.func169 rfl Ach (by simp[Tryz.f169]) ?_;cases he:decide ([c]=l)
 · simp only[go_sem,he,List.getD_cons_zero];refine Au (?_:Aj Tryz.prog 186 _ _ fun h r=>h=[]∧r= .p (.int .i64 (Lib.indexByte l c))) ?_
   · refine Ak Tryz.func186 rfl Acb (by simp[Tryz.f186]) ?_;simp only[go_sem];refine Au (Amf l c.toNat) ?_;rintro h' r ⟨rfl,rfl⟩;simp only[go_sem,Ao8]
   · rintro h' r ⟨rfl,rfl⟩;simp only[go_sem]
 · simp only[go_sem,he];have:l=[c]:=by simpa using (of_decide_eq_true he).symm
   subst this;simp[Lib.indexByte]
theorem Ah2 (l:List UInt8) (c:UInt8):Aj Tryz.prog 139 [.p (.str l),.p (.str [c])] [] fun h r=>h=[]∧r= .p (.int .i64 (Lib.indexByte l c)):=by
 refine Ak Tryz.func139 rfl Acv (by simp[Tryz.f139]) ?_;simp only[go_sem];refine Au (Abm l c) ?_;rintro h' r ⟨rfl,rfl⟩;simp only[go_sem]
theorem k8 (a r:List (List UInt8)) (y x:List UInt8):(a++y::r).set a.length x=(a++[x])++r:=by
 rw[List.set_append_right _ _ (Nat.le_refl _),Nat.sub_self,List.set_cons_zero,List.append_assoc];rfl
theorem Ajp (n:Nat):AV (List.replicate n [])=List.replicate n [.str []]:=by simp[AV]
theorem Xd (l:List UInt8) (c:UInt8) (hl:l.length≤100000000):Aj Tryz.prog 104 [.p (.str l),.p (.str [c]),.p (.int .i64 0),.p (.int .i64 (-1))] [] fun h r=>h=[(0,.arr 9 1 (AV (BR c l)))]∧r= .ref 0 0 (BR c l).length (BR c l).length:=by
 refine Ak Tryz.func104 rfl Adl (by simp[Tryz.f104]) ?_;have hn:=I5 c l;have hc:l.count c≤l.length:=List.count_le_length;have w1:IntKind.i64.wrap ((l.count c:Nat)+1)=(((BR c l).length:Nat):Int):=by rw[hn,An]<;>omega
 have w2:IntKind.i64.wrap ((l.length:Int)+1)=(l.length:Int)+1:=by rw[An]<;>omega
 have w3:¬(l.length:Int)+1<(((BR c l).length:Nat):Int):=by omega
 have w4:IntKind.i64.wrap ((((BR c l).length:Nat):Int) - 1)=((l.count c:Nat):Int):=by rw[hn,An]<;>omega
 simp only[go_sem];refine Au (Ak3 l c) ?_;rintro h' r ⟨rfl,rfl⟩;simp only[go_sem,w1,w2,w3,w4,Int.toNat_natCast];refine ⟨by omega,?_⟩;generalize hS:BR c l=S at*;refine Ao (fun q:List (List UInt8)×List UInt8=>⟨[(0,.p (.str q.2)),(1,.p (.str [c])),(2,.p (.int .i64 0)),(3,.p (.int .i64 (l.count c:Nat))),(9,.ref 31 0 S.length S.length),(10,.p (.int .i64 (q.1.length:Nat)))],[(31,.arr 9 1 (AV (q.1++List.replicate (S.length - q.1.length) [])))],66⟩)
   (fun q=>S=q.1++BR c q.2∧q.2.length≤l.length) (fun q=>S.length - q.1.length) ([],l) ⟨by simp[hS],by simp⟩ (Wk.forget (by simp[Le,AG,Av,get,Aa,Ac,Ad,D.ids,Ai,AO.ids,Ae,base,Ajp])) ?_
 rintro ⟨a,t⟩ n ⟨he,ht⟩ ih;simp only at he ht;have hln:=congrArg List.length he;rw[List.length_append,I5] at hln;simp only[go_sem];refine AK (fun h2=>?_) (fun h2=>?_)
 · have AL:a.length<l.count c:=by simp at h2;omega
   simp only[go_sem];refine Au (Ah2 t c) ?_;rintro h' r ⟨rfl,rfl⟩;rcases Hq c t with ⟨h3,h4⟩ | ⟨m,h3,h4,h5⟩
   · rw[h4] at he;have:=congrArg List.length he;simp at this;omega
   · have c1:¬(m:Int)<0:=by omega
     have w5:IntKind.i64.wrap ((m:Int)+0)=(m:Int):=by rw[An]<;>omega
     have w6:IntKind.i64.wrap ((m:Int)+1)=((m+1:Nat):Int):=by rw[An]<;>omega
     have w7:=As a.length (by omega);have Qw:(0:Int)≤(m:Int)∧(m:Int)≤(t.length:Int):=by omega
     have Qg:(0:Int)≤((m+1:Nat):Int)∧((m+1:Nat):Int)≤(t.length:Int):=by omega
     have ha:(0:Int)≤(a.length:Int)∧(a.length:Int)<(S.length:Int):=by omega
     obtain ⟨k,hk⟩:∃k,S.length - a.length=k+1:=⟨S.length - a.length - 1,by omega⟩;have HL:S.length - (a.length+1)=k:=by omega
     have hlen:S.length=(a++[]::List.replicate k ([]:List UInt8)).length:=by simp;omega
     have hg:=BT (a++[]::List.replicate k ([]:List UInt8)) a.length (by rw[←hlen];omega);simp only[go_sem,h3,c1,hk,w5,w6,w7,Int.toNat_natCast,Aq,Qw,Qg,ha,hg,Int.le_refl,List.drop_zero,List.take_length];refine ⟨hlen,hlen,?_⟩;rw[←N5,k8];refine ih (a++[t.take m],t.drop (m+1)) _ ⟨by rw[he,h5];simp,by simp;omega⟩ (by simp;omega) ?_
     (refine Wk.forget ?_;simp[Le,AG,Av,get,Aa,Ac,Ad,D.ids,Ai,AO.ids,Ae,base,HL];done)
 · have AL:a.length=l.count c:=by simp at h2;omega
   have hS1:S.length - a.length=1:=by omega
   rcases Hq c t with ⟨h3,h4⟩ | ⟨m,h3,h4,h5⟩
   · have w7:IntKind.i64.wrap ((a.length:Int)+1)=((S.length:Nat):Int):=by rw[An]<;>omega
     have ha:(0:Int)≤(a.length:Int)∧(a.length:Int)<(S.length:Int):=by omega
     have hlen:S.length=(a++[([]:List UInt8)]).length:=by simp;omega
     have hg:=BT (a++[([]:List UInt8)]) a.length (by rw[←hlen];omega);have Atr:S=a++[t]:=by rw[he,h4]
     have hS0:(0:Int)≤(S.length:Int):=by omega
     simp only[go_sem,hS1,w7,Int.toNat_natCast,Aq,ha,hg,Int.le_refl,←N5,k8,List.length_set,hS0,Int.sub_zero];refine ⟨hlen,hlen,by rw[Atr],Bc ?_⟩;simp only[go_sem];rw[Atr]
   · rw[h5] at he;have h6:=I5 c (t.drop (m+1));have:=congrArg List.length he;simp at this;omega
theorem Afo (l:List UInt8) (c:UInt8) (hl:l.length≤100000000):Aj Tryz.prog 60 [.p (.str l),.p (.str [c])] [] fun h r=>h=[(0,.arr 9 1 (AV (BR c l)))]∧r= .ref 0 0 (BR c l).length (BR c l).length:=by
 refine Ak Tryz.func60 rfl Ait (by simp[Tryz.f60]) ?_;simp only[go_sem];refine Au (Xd l c hl) ?_;rintro h' r ⟨rfl,rfl⟩;simp only[go_sem];refine Bc ?_;simp only[go_sem]
def DM (c:Int):Bool:=decide (32<c)&&(decide (c≤126)&&!decide (c=35))
theorem H6 (c:Int):Aj Tryz.prog 105 [.p (.int .u8 c)] [] fun h r=>h=[]∧r= .p (.bool (DM c)):=by
 refine Ak Tryz.func105 rfl Adk (by simp[Tryz.f105]) ?_;by_cases h1:32<c
 · by_cases h2:c≤126
   · simp only[go_sem,h1,h2];simp[DM,h1,h2]
   · simp only[go_sem,h1,h2];simp[DM,h1,h2]
 · simp only[go_sem,h1];simp[DM,h1]
def I0:List UInt8→Option (List UInt8)→List (List UInt8)→List (List UInt8)×Int
 | [],none,acc=>(acc,0)
 | [],some cur,acc=>(acc++[cur],0)
 | b::r,c,acc=>
   if (b.toNat:Int)=35 then (acc++c.toList,0)
   else if (b.toNat:Int)=32∨(b.toNat:Int)=9 then I0 r none (acc++c.toList)
   else if DM b.toNat then (if (c.getD []).length=12 then ([],3) else I0 r (some (c.getD []++[b])) acc)
   else ([],2)
theorem Ac8 (t:List UInt8) (cur:List UInt8) (acc:List (List UInt8)) (h:∀b r,t=b::r→(b.toNat:Int)=35∨(b.toNat:Int)=32∨(b.toNat:Int)=9):I0 t (some cur) acc=I0 t none (acc++[cur]):=by
 cases t with
 | nil=>simp[I0]
 | cons b r=>
   rcases h b r rfl with h | h | h<;>simp[I0,h]
theorem An8 (s:List UInt8) (hs:s.length≤100000000):Aj Tryz.prog 61 [.p (.str s)] [] fun h r=>h=[]∧r= .BA [.p (.sl (AV (I0 s none []).1)),.p (.int .i64 (I0 s none []).2)]:=by
 refine Ak Tryz.func61 rfl Ais (by simp[Tryz.f61]) ?_;simp only[go_sem];refine P7 (fun q:Bool×Nat×Nat×List (List UInt8)=>if q.1 then 1 else 0)
   (fun q=>⟨[(0,.p (.str s)),(2,.cl []),(4,.ref 59 0 q.2.2.2.length q.2.2.2.length),(5,.p (.int .i64 (q.2.1:Nat))),(6,.p (.int .i64 (q.2.2.1:Nat)))],[(59,.arr 9 1 (AV q.2.2.2))],71⟩)
   (fun q=>q.2.2.1≤q.2.1∧q.2.1≤s.length∧(q.1=true→q.2.1≤q.2.2.1+12∧q.2.2.1<q.2.1∧q.2.2.2.length≤q.2.2.1)∧q.2.2.2.length≤q.2.1∧I0 (s.drop q.2.1) (if q.1 then some ((s.take q.2.1).drop q.2.2.1) else none) q.2.2.2=I0 s none [])
   (fun q=>2*(s.length - q.2.1)+(if q.1 then 1 else 0)) (2*s.length+2) ?_ ?_
 · intro n ih;simp only[go_sem];cases Hv:decide ((0:Int)=(s.length:Int));rotate_left
   · have Ahj:0=s.length:=by have:=of_decide_eq_true Hv;omega
     simp only[go_sem,Hv];refine Ah ?_;simp only[go_sem];rw[List.eq_nil_of_length_eq_zero Ahj.symm];simp[I0,AV]
   have AL:0<s.length:=by have:=of_decide_eq_false Hv;omega
   have NR:s=s.getD 0 0::s.drop 1:=by have:=Bn s 0 0 AL;simpa using this
   have he:I0 (s.getD 0 0::s.drop 1) none []=I0 s none []:=by rw[←NR]
   have S0:(0:Int)<(s.length:Int):=by omega
   have Bm:(0:Int)≤(0:Int):=by omega
   have hw:IntKind.i64.wrap ((0:Int)+1)=(((0+1:Nat)):Int):=by rw[An]<;>omega
   have Ol:IntKind.i64.wrap ((0:Int) - 0)=0:=by rw[Int.sub_self];rfl
   have htk:(s.take (0+1)).drop 0=[s.getD 0 0]:=by rw[List.drop_take,Bn s _ 0 AL];simp
   generalize hb:s.getD 0 0=b at*;generalize hc:(b.toNat:Int)=c at*;cases Ov:decide (c=35);rotate_left
   · simp only[go_sem,Int.toNat_natCast,Hv,S0,Bm,hb,hc,Ov,Int.reduceToNat,Nat.reduceAdd];refine Ah ?_;simp only[go_sem];have:=of_decide_eq_true Ov;rw[←he];simp[I0,hc,this,Aq,G5,AV]
   have Vr:=of_decide_eq_false Ov;cases Xc:decide (c=32)
   · cases h9:decide (c=9)
     · have O7:=of_decide_eq_false Xc;have h9':=of_decide_eq_false h9;simp only[go_sem,Int.toNat_natCast,Hv,S0,Bm,hb,hc,Ov,Xc,h9];refine Au (H6 c) ?_;rintro h' r ⟨rfl,rfl⟩;cases Fe:DM c
       · simp only[go_sem,Fe];refine Ah ?_;simp only[go_sem];rw[←he];simp[I0,hc,Vr,O7,h9',Fe,AV]
       · simp only[go_sem,Fe,hw,Ol];refine ih (true,0+1,0,[]) _ ⟨by simp only;omega,by simp only;omega,(fun _=>by simp only[List.length_nil];omega),by simp only[List.length_nil];omega,?_⟩ (by simp only[if_true];omega) ?_
         · rw[←he];simp only[if_true,htk];simp[I0,hc,Vr,O7,h9',Fe]
         · exact (Wk.nil (t:=4) (q:=59) (sz:=1) 9 rfl rfl (by decide)).trans (Wk.forget (by simp[Le,AG,Av,get,Aa,Ac,Ad,D.ids,Ai,AO.ids,Ae,base,AV]))
     · have h9':=of_decide_eq_true h9;simp only[go_sem,Int.toNat_natCast,Hv,S0,Bm,hb,hc,Ov,Xc,h9,hw];refine ih (false,0+1,0,[]) _ ⟨by simp only;omega,by simp only;omega,(fun h=>by cases h),by simp only[List.length_nil];omega,?_⟩ (by simp;omega) ?_
       · rw[←he];simp[I0,hc,h9']
       · exact (Wk.nil (t:=4) (q:=59) (sz:=1) 9 rfl rfl (by decide)).trans (Wk.forget (by simp[Le,AG,Av,get,Aa,Ac,Ad,D.ids,Ai,AO.ids,Ae,base,AV]))
   · have O7:=of_decide_eq_true Xc;simp only[go_sem,Int.toNat_natCast,Hv,S0,Bm,hb,hc,Ov,Xc,hw];refine ih (false,0+1,0,[]) _ ⟨by simp only;omega,by simp only;omega,(fun h=>by cases h),by simp only[List.length_nil];omega,?_⟩ (by simp;omega) ?_
     · rw[←he];simp[I0,hc,O7]
     · exact (Wk.nil (t:=4) (q:=59) (sz:=1) 9 rfl rfl (by decide)).trans (Wk.forget (by simp[Le,AG,Av,get,Aa,Ac,Ad,D.ids,Ai,AO.ids,Ae,base,AV]))
 · rintro ⟨VU,at_,bg,acc⟩ n ⟨hbg,G4,S3,ZC,he⟩ ih;simp only at hbg G4 S3 ZC he;cases VU
   · simp only[Bool.false_eq_true,if_false] at he;refine ⟨_,rfl,?_⟩;simp only[go_sem];cases Hv:decide ((at_:Int)=(s.length:Int));rotate_left
     · have Ahj:at_=s.length:=by have:=of_decide_eq_true Hv;omega
       simp only[go_sem,Hv];refine Ah ?_;simp only[go_sem];rw[←he,List.drop_of_length_le (by omega)];simp[I0,Aq,G5]
     have AL:at_<s.length:=by have:=of_decide_eq_false Hv;omega
     rw[Bn s at_ 0 AL] at he;have S0:(at_:Int)<(s.length:Int):=by omega
     have Bm:(0:Int)≤(at_:Int):=by omega
     have hw:IntKind.i64.wrap ((at_:Int)+1)=(((at_+1:Nat)):Int):=by rw[An]<;>omega
     have Ol:IntKind.i64.wrap ((at_:Int) - at_)=0:=by rw[Int.sub_self];rfl
     have htk:(s.take (at_+1)).drop at_=[s.getD at_ 0]:=by rw[List.drop_take,Bn s _ 0 AL];simp
     generalize hb:s.getD at_ 0=b at*;generalize hc:(b.toNat:Int)=c at*;cases Ov:decide (c=35);rotate_left
     · simp only[go_sem,Int.toNat_natCast,Hv,S0,Bm,hb,hc,Ov];refine Ah ?_;simp only[go_sem];have:=of_decide_eq_true Ov;rw[←he];simp[I0,hc,this,Aq,G5]
     have Vr:=of_decide_eq_false Ov;cases Xc:decide (c=32)
     · cases h9:decide (c=9)
       · have O7:=of_decide_eq_false Xc;have h9':=of_decide_eq_false h9;simp only[go_sem,Int.toNat_natCast,Hv,S0,Bm,hb,hc,Ov,Xc,h9];refine Au (H6 c) ?_;rintro h' r ⟨rfl,rfl⟩;cases Fe:DM c
         · simp only[go_sem,Fe];refine Ah ?_;simp only[go_sem];rw[←he];simp[I0,hc,Vr,O7,h9',Fe,AV]
         · simp only[go_sem,Fe,hw,Ol];refine ih (true,at_+1,at_,acc) _ ⟨by simp only;omega,by simp only;omega,(fun _=>by simp only[List.length_nil];omega),by simp only[List.length_nil];omega,?_⟩ (by simp only[if_true];omega) ?_
           · rw[←he];simp only[if_true,htk];simp[I0,hc,Vr,O7,h9',Fe]
           · (refine Wk.forget ?_;simp[Le,AG,Av,get,Aa,Ac,Ad,D.ids,Ai,AO.ids,Ae,base];done)
       · have h9':=of_decide_eq_true h9;simp only[go_sem,Int.toNat_natCast,Hv,S0,Bm,hb,hc,Ov,Xc,h9,hw];refine ih (false,at_+1,bg,acc) _ ⟨by simp only;omega,by simp only;omega,(fun h=>by cases h),by simp only[List.length_nil];omega,?_⟩ (by simp;omega) ?_
         · rw[←he];simp[I0,hc,h9']
         · (refine Wk.forget ?_;simp[Le,AG,Av,get,Aa,Ac,Ad,D.ids,Ai,AO.ids,Ae,base];done)
     · have O7:=of_decide_eq_true Xc;simp only[go_sem,Int.toNat_natCast,Hv,S0,Bm,hb,hc,Ov,Xc,hw];refine ih (false,at_+1,bg,acc) _ ⟨by simp only;omega,by simp only;omega,(fun h=>by cases h),by simp only[List.length_nil];omega,?_⟩ (by simp;omega) ?_
       · rw[←he];simp[I0,hc,O7]
       · (refine Wk.forget ?_;simp[Le,AG,Av,get,Aa,Ac,Ad,D.ids,Ai,AO.ids,Ae,base];done)
   · simp only[if_true] at he ih;simp only[forall_const] at S3;refine ⟨_,rfl,?_⟩;simp only[go_sem];have hbi:(0:Int)≤(bg:Int)∧(bg:Int)≤(at_:Int)∧(at_:Int)≤(s.length:Int):=by omega
     have flush:(∀b r,s.drop at_=b::r→(b.toNat:Int)=35∨(b.toNat:Int)=32∨(b.toNat:Int)=9)→I0 (s.drop at_) none (acc++[(s.take at_).drop bg])=I0 s none []:=by
       intro h;rw[←Ac8 _ _ _ h];exact he
     cases Hv:decide ((at_:Int)=(s.length:Int));rotate_left
     · have Ahj:at_=s.length:=by have:=of_decide_eq_true Hv;omega
       have hdn:s.drop at_=[]:=List.drop_of_length_le (by omega);simp only[go_sem,Hv,Int.toNat_natCast,Aq,hbi];refine ⟨⟨Cf _ _ rfl,by omega⟩,?_⟩;refine ih (false,at_,bg,acc++[(s.take at_).drop bg]) _ ⟨hbg,G4,(fun h=>by cases h),by have:=S3.2.2;have:=S3.2.1;simp;omega,?_⟩ (by simp) ?_
       · simp only[Bool.false_eq_true,if_false];exact flush (fun b r h=>by rw[hdn] at h;cases h)
       · (refine Wk.forget ?_;simp[Le,AG,Av,get,Aa,Ac,Ad,D.ids,Ai,AO.ids,Ae,base,CP,Aq];done)
     have AL:at_<s.length:=by have:=of_decide_eq_false Hv;omega
     have hd:=Bn s at_ 0 AL;have S0:(at_:Int)<(s.length:Int):=by omega
     have Bm:(0:Int)≤(at_:Int):=by omega
     have hw:IntKind.i64.wrap ((at_:Int)+1)=((at_+1:Nat):Int):=by rw[An]<;>omega
     have Ol:IntKind.i64.wrap ((at_:Int) - bg)=((at_ - bg:Nat):Int):=by rw[An]<;>omega
     have htk:(s.take (at_+1)).drop bg=(s.take at_).drop bg++[s.getD at_ 0]:=by
       rw[List.take_succ_eq_append_getElem AL,List.drop_append_of_le_length (by simp;omega)];simp[List.getD,AL]
     have Ot:((s.take at_).drop bg).length=at_ - bg:=by simp;omega
     generalize hb:s.getD at_ 0=b at*;rw[hd] at he;generalize hc:(b.toNat:Int)=c at*;have sep:c=35∨c=32∨c=9→I0 (s.drop at_) none (acc++[(s.take at_).drop bg])=I0 s none []:=by
       intro h;refine flush fun b' r' h'=>?_;rw[hd] at h';cases h';rw[hc];exact h
     cases Ov:decide (c=35)
     · cases Xc:decide (c=32)
       · cases h9:decide (c=9)
         · have Vr:=of_decide_eq_false Ov;have O7:=of_decide_eq_false Xc;have h9':=of_decide_eq_false h9;simp only[go_sem,Int.toNat_natCast,Hv,S0,Bm,hb,hc,Ov,Xc,h9];refine Au (H6 c) ?_;rintro h' r ⟨rfl,rfl⟩;cases Fe:DM c
           · simp only[go_sem,Fe];refine Ah ?_;simp only[go_sem];rw[←he];simp[I0,hc,Vr,O7,h9',Fe,AV]
           · cases Ams:decide (((at_ - bg:Nat):Int)=12)
             · have Aqt:¬at_ - bg=12:=by have:=of_decide_eq_false Ams;omega
               simp only[go_sem,Fe,hw,Ol,Ams];refine ih (true,at_+1,bg,acc) _ ⟨by simp only;omega,by simp only;omega,(fun _=>by simp only;omega),by simp only;omega,?_⟩ (by simp only[if_true];omega) ?_
               · rw[←he];simp only[if_true,htk];simp[I0,hc,Vr,O7,h9',Fe,Ot,Aqt]
               · (refine Wk.forget ?_;simp[Le,AG,Av,get,Aa,Ac,Ad,D.ids,Ai,AO.ids,Ae,base];done)
             · have Aqt:at_ - bg=12:=by have:=of_decide_eq_true Ams;omega
               simp only[go_sem,Fe,hw,Ol,Ams];refine Ah ?_;simp only[go_sem];rw[←he];simp[I0,hc,Vr,O7,h9',Fe,Ot,Aqt,AV]
         · simp only[go_sem,Int.toNat_natCast,Hv,S0,Bm,hb,hc,Ov,Xc,h9,Aq,hbi];refine ⟨⟨Cf _ _ rfl,by omega⟩,?_⟩;refine ih (false,at_,bg,acc++[(s.take at_).drop bg]) _ ⟨hbg,G4,(fun h=>by cases h),by have:=S3.2.2;have:=S3.2.1;simp;omega,?_⟩ (by simp) ?_
           · simp only[Bool.false_eq_true,if_false];exact sep (.inr (.inr (of_decide_eq_true h9)))
           · (refine Wk.forget ?_;simp[Le,AG,Av,get,Aa,Ac,Ad,D.ids,Ai,AO.ids,Ae,base,CP,Aq];done)
       · simp only[go_sem,Int.toNat_natCast,Hv,S0,Bm,hb,hc,Ov,Xc,Aq,hbi];refine ⟨⟨Cf _ _ rfl,by omega⟩,?_⟩;refine ih (false,at_,bg,acc++[(s.take at_).drop bg]) _ ⟨hbg,G4,(fun h=>by cases h),by have:=S3.2.2;have:=S3.2.1;simp;omega,?_⟩ (by simp) ?_
         · simp only[Bool.false_eq_true,if_false];exact sep (.inr (.inl (of_decide_eq_true Xc)))
         · (refine Wk.forget ?_;simp[Le,AG,Av,get,Aa,Ac,Ad,D.ids,Ai,AO.ids,Ae,base,CP,Aq];done)
     · simp only[go_sem,Int.toNat_natCast,Hv,S0,Bm,hb,hc,Ov,Aq,hbi];refine ⟨⟨Cf _ _ rfl,by omega⟩,?_⟩;refine ih (false,at_,bg,acc++[(s.take at_).drop bg]) _ ⟨hbg,G4,(fun h=>by cases h),by have:=S3.2.2;have:=S3.2.1;simp;omega,?_⟩ (by simp) ?_
       · simp only[Bool.false_eq_true,if_false];exact sep (.inl (of_decide_eq_true Ov))
       · (refine Wk.forget ?_;simp[Le,AG,Av,get,Aa,Ac,Ad,D.ids,Ai,AO.ids,Ae,base,CP,Aq];done)
def Nl:List (List UInt8)→Nat→List Ln→List Ln×Int×Int
 | [],_,acc=>(acc,0,0)
 | t::r,k,acc=>if (I0 t none []).2=0 then Nl r (k+1) (if 0<(I0 t none []).1.length then acc++[⟨(k:Nat),(I0 t none []).1⟩] else acc) else ([],(k:Nat),(I0 t none []).2)
def BX (s:List UInt8):List Ln×Int×Int:=if 6000<s.length then ([],0,1) else Nl (BR 10 s) 1 []
def U5 (r:List Ln×Int×Int):D:= .BA [.p (.sl (CN r.1)),.p (.int .i64 r.2.1),.p (.int .i64 r.2.2)]
theorem UK (c:UInt8) (l:List UInt8):∀x∈BR c l,x.length≤l.length:=by
 induction l with
 | nil=>simp[BR]
 | cons b r ih=>
   intro x hx;simp only[BR] at hx;split at hx
   · rcases List.mem_cons.1 hx with rfl | hx
     · simp
     · have:=ih x hx;simp;omega
   · split at hx
     · simp at hx;subst hx;simp
     · rename_i y ys h;rcases List.mem_cons.1 hx with rfl | hx
       · have:=ih y (by rw[h];simp);simp;omega
       · have:=ih x (by rw[h];simp[hx]);simp;omega
theorem Ab9 (s:List UInt8):Aj Tryz.prog 29 [.p (.str s)] [] fun h r=>h=[]∧r=U5 (BX s):=by
 refine Ak Tryz.func29 rfl Ajb (by simp[Tryz.f29]) ?_;cases hlen:decide ((6000:Int)<(s.length:Int))
 · have hl:s.length≤6000:=by have:=of_decide_eq_false hlen;omega
   have hf:BX s=Nl (BR 10 s) 1 []:=by unfold BX;rw[if_neg (by omega)]
   rw[hf];simp only[go_sem,hlen];refine Au (Afo s 10 (by omega)) ?_;rintro h' r ⟨rfl,rfl⟩;have Zq:=UK 10 s;have Atw:=I5 10 s;have Ot:s.count 10≤s.length:=List.count_le_length;generalize hS:BR 10 s=S at*;simp only[go_sem,Aq];refine Ao (fun q:Nat×List Ln=>⟨[(14,.ref 10014 0 S.length S.length),(15,.p (.int .i64 (S.length:Nat))),(16,.p (.int .i64 (q.1:Nat))),(5,.ref 40 0 q.2.length q.2.length)],[(10014,.arr 9 1 (AV S)),(40,.arr 80 2 (CN q.2))],43⟩)
     (fun q=>q.1≤S.length∧q.2.length≤q.1∧Nl (S.drop q.1) (q.1+1) q.2=Nl S 1 []) (fun q=>S.length - q.1) (0,[]) ⟨Nat.zero_le _,by simp,by simp⟩ ((Wk.nil (t:=5) (q:=40) (sz:=2) 80 rfl rfl (by decide)).trans (Wk.forget (by simp[Le,AG,Av,get,Aa,Ac,Ad,D.ids,Ai,AO.ids,Ae,base,CN]))) ?_
   rintro ⟨i,acc⟩ n ⟨hi,hn,he⟩ ih;simp only at hi hn he;simp only[go_sem];refine AK (fun h2=>?_) (fun h2=>?_)
   · have AL:i<S.length:=by simp at h2;omega
     have hw:=As i (by omega);have hb:=Zq _ (A7 S i [] AL);have S0:(i:Int)<(S.length:Int):=by omega
     have Bm:(0:Int)≤(i:Int):=by omega
     have hg:=BT S i AL;rw[Bn S i [] AL] at he;generalize S.getD i []=t at*;simp only[go_sem,Int.toNat_natCast,Aq,hg,S0,Bm];refine Au (An8 t (by omega)) ?_;rintro h' r ⟨rfl,rfl⟩;by_cases hz:(I0 t none []).2=0
     · by_cases hp:0<(I0 t none []).1.length
       · have hp':(0:Int)<((I0 t none []).1.length:Int):=by omega
         simp only[go_sem,hz,hw,Aq,A5,hp'];refine ⟨⟨Cf _ _ rfl,by omega⟩,?_⟩;refine ih (i+1,acc++[⟨(i+1:Nat),(I0 t none []).1⟩]) _ ⟨AL,by simp only[List.length_append,List.length_cons,List.length_nil];omega,by rw[←he];simp only[Nl,hz,hp,if_true]⟩ (by simp only;omega) ?_
         (refine Wk.forget ?_;simp[Le,AG,Av,get,Aa,Ac,Ad,D.ids,Ai,AO.ids,Ae,base,IS,A5];done)
       · have hp':¬(0:Int)<((I0 t none []).1.length:Int):=by omega
         simp only[go_sem,hz,hw,Aq,hp'];refine ih (i+1,acc) _ ⟨AL,by simp only;omega,by rw[←he];simp only[Nl,hz,hp,if_true,if_false]⟩ (by simp only;omega) ?_
         (refine Wk.forget ?_;simp[Le,AG,Av,get,Aa,Ac,Ad,D.ids,Ai,AO.ids,Ae,base];done)
     · simp only[go_sem,hz,hw];refine Ah ?_;simp only[go_sem];rw[←he];simp[Nl,hz,U5,CN]
   · simp only[go_sem];have Zv:i=S.length:=by simp at h2;omega
     subst Zv;refine Ah ?_;simp only[go_sem];rw[List.drop_length] at he;rw[←he];simp[Nl,U5,A5,Pg]
 · have hl:6000<s.length:=by have:=of_decide_eq_true hlen;omega
   have hf:BX s=([],0,1):=by unfold BX;rw[if_pos hl]
   rw[hf];simp only[go_sem,hlen];refine Ah ?_;simp only[go_sem];try simp[U5,CN]
def FO (n:Nat):List UInt8:=if h:n<10 then [UInt8.ofNat (48+n)] else FO (n / 10)++[UInt8.ofNat (48+n % 10)]
termination_by n
decreasing_by omega
def MQ (n:Int):List UInt8:=if n<0 then 45::FO (-n).toNat else FO n.toNat
theorem EA (n:Nat) (h:n<10):FO n=[UInt8.ofNat (48+n)]:=by rw[FO,dif_pos h]
theorem K6 (n:Nat) (h:¬n<10):FO n=FO (n / 10)++[UInt8.ofNat (48+n % 10)]:=by rw[FO,dif_neg h]
theorem HD:∀(k n:Nat),n<10 ^ (k+1)→(FO n).length≤k+1
 | 0,n,h=>by rw[EA n (by simpa using h)];simp
 | k+1,n,h=>by
   by_cases h1:n<10
   · rw[EA n h1];simp
   · have:=HD k (n / 10) (by rw[Nat.pow_succ] at h;omega);rw[K6 n h1];simp;omega
theorem G7 (n:Nat) (hn:n≤1000000000000000):Aj Tryz.prog 56 [.p (.int .i64 (n:Nat))] [] fun h r=>h=[]∧r= .p (.str (FO n)):=by
 refine Ak Tryz.func56 rfl Xq (by simp[Tryz.f56]) ?_;have hlen:=HD 15 n (by omega);have h0:¬(n:Int)<0:=by omega
 simp only[go_sem,h0];refine Ao (fun q:Nat×List UInt8=>⟨[(0,.p (.int .i64 (q.1:Nat))),(3,.p (.str q.2))],[],23⟩) (fun q=>q.1≤n∧FO q.1++q.2=FO n) (fun q=>q.1) (n,[]) ⟨Nat.le_refl _,by simp⟩ (Wk.forget (by simp[Le,AG,Av,get,Aa,Ac,Ad,D.ids,Ai,AO.ids,Ae,base])) ?_;rintro ⟨m,s⟩ k ⟨hm,he⟩ ih;simp only at hm he;have W9:(m:Int).tmod 10=((m % 10:Nat):Int):=by rw[Int.tmod_eq_emod_of_nonneg (by omega)];omega
 have hdiv:(m:Int).tdiv 10=((m / 10:Nat):Int):=by rw[Int.tdiv_eq_ediv_of_nonneg (by omega)];omega
 have w1:IntKind.i64.wrap (48+((m % 10:Nat):Int))=48+((m % 10:Nat):Int):=by rw[An]<;>omega
 have w2:IntKind.u8.wrap (48+((m % 10:Nat):Int))=((UInt8.ofNat (48+m % 10)).toNat:Int):=by rw[IntKind.wrap_u8];simp
 have w3:IntKind.i64.wrap ((m / 10:Nat):Int)=((m / 10:Nat):Int):=by rw[An]<;>omega
 have Aoq:¬(10:Int)=0:=by decide
 have hsl:s.length≤20:=by have:=congrArg List.length he;simp at this;omega
 simp only[go_sem,W9,hdiv,w1,w2,Aoq];refine Arv (l:=[UInt8.ofNat (48+m % 10)]) rfl Alf ti9 ti5 rfl rfl ?_;simp only[go_sem,W9,hdiv,w3,Aoq];refine ⟨by unfold maxLen;omega,?_⟩;refine AK (fun h2=>?_) (fun h2=>?_)
 · simp only[go_sem];have h3:m<10:=by simp at h2;omega
   rw[←he,EA m h3,Nat.mod_eq_of_lt h3];rfl
 · have h3:¬m<10:=by simp at h2;omega
   simp only[go_sem];refine ih (m / 10,[UInt8.ofNat (48+m % 10)]++s) _ ⟨by simp only;omega,by rw[←he,K6 m h3];simp⟩ (by simp only;omega) ?_
   (refine Wk.forget ?_;simp[Le,AG,Av,get,Aa,Ac,Ad,D.ids,Ai,AO.ids,Ae,base];done)
theorem Ae2 (n:Int) (h0:-1000000000000000≤n) (h1:n≤1000000000000000):Aj Tryz.prog 56 [.p (.int .i64 n)] [] fun h r=>h=[]∧r= .p (.str (MQ n)):=by
 by_cases hn:n<0
 · refine Ak Tryz.func56 rfl Xq (by simp[Tryz.f56]) ?_;have hw:IntKind.i64.wrap (0 - n)=(((-n).toNat:Nat):Int):=by rw[An]<;>omega
   have hlen:=HD 15 (-n).toNat (by omega);simp only[go_sem,hn,hw];refine Au (G7 (-n).toNat (by omega)) ?_;rintro h' r ⟨rfl,rfl⟩;simp only[go_sem];refine ⟨by unfold maxLen;omega,?_⟩;try simp only[go_sem]
   simp[MQ,hn]
 · have:=G7 n.toNat (by omega);rw[show ((n.toNat:Nat):Int)=n by omega] at this;refine this.mono ?_;rintro h r ⟨rfl,rfl⟩;exact ⟨rfl,by simp[MQ,hn]⟩
theorem KT (l:List Int) (x:Int) (hl:l.length≤10000000):
   Aj Tryz.prog 45 [.p (.sl (Ag l)),.p (.int .i64 x)] [] fun h r=>h=[]∧r= .p (.bool (decide (x∈l))):=by
 refine Ak Tryz.func45 rfl Xt (by simp[Tryz.f45]) ?_;simp only[go_sem,Ab];refine Ao (fun i=>⟨[(0,.p (.sl (Ag l))),(1,.p (.int .i64 x)),(5,.p (.int .i64 (i:Nat)))],[],18⟩) (fun i=>i≤l.length∧x∉l.take i) (fun i=>l.length - i) 0 ⟨Nat.zero_le _,by simp⟩ (Wk.forget (by simp[Le,AG,Av,get,Aa,Ac,Ad,D.ids,Ai,AO.ids,Ae,base,Ag])) ?_;rintro i n ⟨hi,he⟩ ih;simp only[go_sem,Ab];refine AK (fun h2=>?_) (fun h2=>?_)
 · have AL:i<l.length:=by simp at h2;omega
   have hw:=As i (by omega);have hg:=AD l i AL;have hx:l[i]?=some (l.getD i 0):=by simp[List.getD,AL]
   have Bm:(0:Int)≤(i:Int)∧(i:Int)<(l.length:Int):=by omega
   have Di:=A7 l i 0 AL;generalize l.getD i 0=y at*;simp only[go_sem,Ab,Int.toNat_natCast,hg,Bm];cases hv:decide (y=x)
   · simp only[go_sem,hv,hw];refine ih (i+1) _ ⟨AL,?_⟩ (by omega) ?_
     · rw[List.take_add_one,hx];have:¬x=y:=fun e=>of_decide_eq_false hv e.symm;simp[he,this]
     · (refine Wk.forget ?_;simp[Le,AG,Av,get,Aa,Ac,Ad,D.ids,Ai,AO.ids,Ae,base,Ag];done)
   · simp only[go_sem,hv];have hm:x∈l:=by rw[←of_decide_eq_true hv];exact Di
     simp[hm]
 · simp only[go_sem];have:i=l.length:=by simp at h2;omega
   subst this;rw[List.take_length] at he;simp[he]
theorem Amp (l:List Int) (x:Int) (hl:l.length≤10000000):
   Aj Tryz.prog 45 [.ref 1000000 0 l.length l.length,.p (.int .i64 x)] [(1000000,.arr 3 1 (Ag l))] fun h r=>h=[(1000000,.arr 3 1 (Ag l))]∧r= .p (.bool (decide (x∈l))):=by
 refine Ak Tryz.func45 rfl Xt (by simp[Tryz.f45]) ?_;simp only[go_sem,Ab];refine Ao (fun i=>⟨[(0,.ref 1000000 0 l.length l.length),(1,.p (.int .i64 x)),(5,.p (.int .i64 (i:Nat)))],[(1000000,.arr 3 1 (Ag l))],18⟩) (fun i=>i≤l.length∧x∉l.take i) (fun i=>l.length - i) 0 ⟨Nat.zero_le _,by simp⟩ (Wk.forget (by simp[Le,AG,Av,get,Aa,Ac,Ad,D.ids,Ai,AO.ids,Ae,base,Ag])) ?_;rintro i n ⟨hi,he⟩ ih;simp only[go_sem,Ab];refine AK (fun h2=>?_) (fun h2=>?_)
 · have AL:i<l.length:=by simp at h2;omega
   have hw:=As i (by omega);have hg:=AD l i AL;have hx:l[i]?=some (l.getD i 0):=by simp[List.getD,AL]
   have Bm:(0:Int)≤(i:Int)∧(i:Int)<(l.length:Int):=by omega
   have Di:=A7 l i 0 AL;generalize l.getD i 0=y at*;simp only[go_sem,Ab,Int.toNat_natCast,hg,Bm];cases hv:decide (y=x)
   · simp only[go_sem,hv,hw];refine ih (i+1) _ ⟨AL,?_⟩ (by omega) ?_
     · rw[List.take_add_one,hx];have:¬x=y:=fun e=>of_decide_eq_false hv e.symm;simp[he,this]
     · (refine Wk.forget ?_;simp[Le,AG,Av,get,Aa,Ac,Ad,D.ids,Ai,AO.ids,Ae,base,Ag];done)
   · simp only[go_sem,hv];have hm:x∈l:=by rw[←of_decide_eq_true hv];exact Di
     simp[hm]
 · simp only[go_sem];have:i=l.length:=by simp at h2;omega
   subst this;rw[List.take_length] at he;simp[he]
theorem Ls (l:List Int) (x:Int) (hl:l.length≤10000000):
   Aj Tryz.prog 102 [.p (.sl (Ag l)),.p (.int .i64 x)] [] fun h r=>h=[]∧r= .p (.sl (Ag (IE l x))):=by
 refine Ak Tryz.func102 rfl Adn (by simp[Tryz.f102]) ?_;simp only[go_sem,Ab];refine Ao (fun q:Nat×Bool×List Int=>⟨[(0,.p (.sl (Ag l))),(1,.p (.int .i64 x)),(5,.ref 27 0 q.2.2.length q.2.2.length),(6,.p (.bool q.2.1)),(7,.p (.int .i64 (q.1:Nat)))],[(27,.arr 3 1 (Ag q.2.2))],42⟩)
   (fun q=>q.1≤l.length∧q.2.2.length≤q.1+q.2.1.toNat∧q.2.2++(if q.2.1 then l.drop q.1 else IE (l.drop q.1) x)=IE l x) (fun q=>l.length - q.1) (0,false,[]) ⟨Nat.zero_le _,by simp,by simp⟩ ((Wk.nil (t:=5) (q:=27) (sz:=1) 3 rfl rfl (by decide)).trans (Wk.forget (by simp[Le,AG,Av,get,Aa,Ac,Ad,D.ids,Ai,AO.ids,Ae,base,Ag]))) ?_
 rintro ⟨i,dn,acc⟩ n ⟨hi,ha,he⟩ ih;simp only at hi ha he;simp only[go_sem,Ab];refine AK (fun h2=>?_) (fun h2=>?_)
 · have AL:i<l.length:=by simp at h2;omega
   have hw:=As i (by omega);have hg:=AD l i AL;have Bm:(0:Int)≤(i:Int)∧(i:Int)<(l.length:Int):=by omega
   rw[Bn l i 0 AL] at he;generalize l.getD i 0=y at*;cases dn
   · cases hv:decide (x<y)
     · have hv':¬x<y:=of_decide_eq_false hv;simp only[go_sem,Ab,Int.toNat_natCast,hg,Bm,hv,hv'];refine ⟨⟨Cf _ _ rfl,by simp at ha;omega⟩,?_⟩;simp only[go_sem,hw];refine ih (i+1,false,acc++[y]) _ ⟨AL,by simp at ha ⊢;omega,?_⟩ (by simp only;omega) ?_
       · rw[←he];simp[IE,hv']
       · (refine Wk.forget ?_;simp[Le,AG,Av,get,Aa,Ac,Ad,D.ids,Ai,AO.ids,Ae,base,Cq,Ab];done)
     · have hv':x<y:=of_decide_eq_true hv;simp only[go_sem,Ab,Int.toNat_natCast,hg,Bm,hv,hv'];refine ⟨⟨Cf _ _ rfl,by simp at ha;omega⟩,⟨Cf _ _ rfl,by simp at ha;simp[Ab];omega⟩,?_⟩;simp only[go_sem,hw];refine ih (i+1,true,acc++[x]++[y]) _ ⟨AL,by simp at ha ⊢;omega,?_⟩ (by simp only;omega) ?_
       · rw[←he];simp[IE,hv']
       · (refine Wk.forget ?_;simp[Le,AG,Av,get,Aa,Ac,Ad,D.ids,Ai,AO.ids,Ae,base,Ag];done)
   · simp only[go_sem,Ab,Int.toNat_natCast,hg,Bm];refine ⟨⟨Cf _ _ rfl,by simp at ha;omega⟩,?_⟩;simp only[go_sem,hw];refine ih (i+1,true,acc++[y]) _ ⟨AL,by simp at ha ⊢;omega,?_⟩ (by simp only;omega) ?_
     · rw[←he];simp
     · (refine Wk.forget ?_;simp[Le,AG,Av,get,Aa,Ac,Ad,D.ids,Ai,AO.ids,Ae,base,Cq,Ab];done)
 · have:i=l.length:=by simp at h2;omega
   subst this;rw[List.drop_length] at he;cases dn
   · simp only[go_sem,Ab];refine ⟨⟨Cf _ _ rfl,by simp at ha;omega⟩,?_⟩;refine Ah ?_;simp only[go_sem];rw[←he];try rw[List.take_of_length_le (by simp[Ab])]
     simp[IE,Ag]
   · simp only[go_sem];refine Ah ?_;simp only[go_sem];rw[←he];simp[EM,Ab]
def Hk (nb i:Nat) (l:List Int) (k:Nat):Prop:=0≤l.getD k 0∧l.getD k 0<(nb:Int)∧l.getD k 0≠(i:Int)∧(0<k→l.getD (k - 1) 0<l.getD k 0)
instance (nb i:Nat) (l:List Int) (k:Nat):Decidable (Hk nb i l k):=by unfold Hk;exact inferInstance
def Gn (nb i:Nat) (l:List Int):Prop:=∀k,k<l.length→Hk nb i l k
instance (nb i:Nat) (l:List Int):Decidable (Gn nb i l):=by unfold Gn;exact inferInstance
def B8 (g:List (List Int)):Prop:=g.length≤24∧∀i,i<g.length→Gn g.length i (g.getD i [])
instance (g:List (List Int)):Decidable (B8 g):=by unfold B8;exact inferInstance
def OD (g:List (List Int)):Prop:=g.length≤10000000∧∀r∈g,r.length≤10000000
theorem Fy (m:Nat) (h:m<9223372036854775807):IntKind.i64.wrap (((m+1:Nat):Int) - 1)=(m:Int):=by rw[An]<;>omega
theorem y9 (g:List (List Int)) (hg:OD g):Aj Tryz.prog 119 [.p (.sl (AM g))] [] fun h r=>h=[]∧r= .p (.bool (decide (B8 g))):=by
 obtain ⟨O4,TX⟩:=hg;refine Ak Tryz.func119 rfl Ad5 (by simp[Tryz.f119]) ?_;simp only[go_sem,Aw];refine AK (fun h1=>?_) (fun h1=>?_)
 · simp only[go_sem];rw[decide_eq_false (fun hp=>?_)];have:=hp.1;simp at h1;omega
 have hlen:g.length≤24:=by simp at h1;omega
 simp only[go_sem];refine Ao (fun i:Nat=>⟨[(0,.p (.sl (AM g))),(3,.p (.int .i64 (i:Nat)))],[],60⟩) (fun i=>i≤g.length∧∀j,j<i→Gn g.length j (g.getD j [])) (fun i=>g.length - i) 0 ⟨Nat.zero_le _,fun j hj=>absurd hj (Nat.not_lt_zero _)⟩ (Wk.forget (by simp[Le,AG,Av,get,Aa,Ac,Ad,D.ids,Ai,AO.ids,Ae,base])) ?_;rintro i n ⟨hi,IG⟩ ih;simp only[go_sem,Aw];refine AK (fun h2=>?_) (fun h2=>?_);rotate_left
 · simp only[go_sem];have:i=g.length:=by simp at h2;omega
   subst this;rw[decide_eq_true ⟨hlen,IG⟩]
 have AL:i<g.length:=by simp at h2;omega
 have hw:=As i (by omega);have Yo:=TX _ (A7 g i [] AL);have Gl:=DH g i AL;have HS:¬Gn g.length i (g.getD i [])→decide (B8 g)=false:=fun h=>decide_eq_false (fun hp=>h (hp.2 i AL));have Ma:Gn g.length i (g.getD i [])→∀j,j<i+1→Gn g.length j (g.getD j []):=fun h j hj=>by
   rcases Nat.lt_succ_iff_lt_or_eq.1 hj with h3 | rfl
   · exact IG j h3
   · exact h
 generalize g.getD i []=r at Yo Gl HS Ma;have Bm:(0:Int)≤(i:Int)∧(i:Int)<(g.length:Int):=by omega
 simp only[go_sem];refine Ao (fun k:Nat=>⟨[(0,.p (.sl (AM g))),(3,.p (.int .i64 (i:Nat))),(4,.p (.int .i64 (k:Nat)))],[],60⟩) (fun k=>k≤r.length∧∀j,j<k→Hk g.length i r j) (fun k=>r.length - k) 0 ⟨Nat.zero_le _,fun j hj=>absurd hj (Nat.not_lt_zero _)⟩ (Wk.forget (by simp[Le,AG,Av,get,Aa,Ac,Ad,D.ids,Ai,AO.ids,Ae,base])) ?_;rintro k n2 ⟨hk,MC⟩ Fi;simp only[go_sem,Aw,Ab,Int.toNat_natCast,Gl,Bm];refine AK (fun h3=>?_) (fun h3=>?_);rotate_left
 · have:k=r.length:=by simp at h3;omega
   subst this;simp only[go_sem,hw];refine ih (i+1) _ ⟨AL,Ma MC⟩ (by omega) ?_
   (refine Wk.forget ?_;simp[Le,AG,Av,get,Aa,Ac,Ad,D.ids,Ai,AO.ids,Ae,base];done)
 have HK:k<r.length:=by simp at h3;omega
 have D5:=As k (by omega);have JV:=AD r k HK;have Ex:(0:Int)≤(k:Int)∧(k:Int)<(r.length:Int):=by omega
 have G4:Hk g.length i r k↔(0≤r.getD k 0∧r.getD k 0<(g.length:Int)∧r.getD k 0≠(i:Int)∧(0<k→r.getD (k - 1) 0<r.getD k 0)):=Iff.rfl;have BC:¬Hk g.length i r k→decide (B8 g)=false:=fun h=>HS (fun hp=>h (hp k HK));have Rw:Hk g.length i r k→∀j,j<k+1→Hk g.length i r j:=fun h j hj=>by
   rcases Nat.lt_succ_iff_lt_or_eq.1 hj with h4 | rfl
   · exact MC j h4
   · exact h
 rcases k with _ | m
 · have hz0:(0:Int)<(r.length:Int):=by omega
   have hwz:IntKind.i64.wrap (0+1)=1:=rfl;generalize r.getD 0 0=y at JV G4;cases c1:decide (y<0);rotate_left
   · simp only[go_sem,Aw,Ab,Int.toNat_natCast,Gl,Bm,JV,hz0,c1];rw[BC (fun hp=>by have:=G4.1 hp;simp at c1;omega)]
   cases c2:decide ((g.length:Int)≤y);rotate_left
   · simp only[go_sem,Aw,Ab,Int.toNat_natCast,Gl,Bm,JV,hz0,c1,c2];rw[BC (fun hp=>by have:=G4.1 hp;simp at c2;omega)]
   cases c3:decide (y=(i:Int));rotate_left
   · simp only[go_sem,Aw,Ab,Int.toNat_natCast,Gl,Bm,JV,hz0,c1,c2,c3];rw[BC (fun hp=>by have:=G4.1 hp;simp at c3;omega)]
   simp only[go_sem,Aw,Ab,Int.toNat_natCast,Gl,Bm,JV,hz0,c1,c2,c3,hwz];refine Fi (0+1) _ ⟨HK,Rw (G4.2 (by simp at c1 c2 c3;exact ⟨by omega,by omega,c3,fun h=>absurd h (Nat.lt_irrefl _)⟩))⟩ (by omega) ?_
   (refine Wk.forget ?_;simp[Le,AG,Av,get,Aa,Ac,Ad,D.ids,Ai,AO.ids,Ae,base];done)
 · have Zt:m<r.length:=by omega
   have hgm:=AD r m Zt;have hm0:(0:Int)≤(m:Int)∧(m:Int)<(r.length:Int):=by omega
   have hwp:=Fy m (by omega);have hkp:(0:Int)<((m+1:Nat):Int):=by omega
   rw[show m+1 - 1=m from rfl] at G4;generalize r.getD (m+1) 0=y at JV G4;generalize r.getD m 0=z at hgm G4;cases c1:decide (y<0);rotate_left
   · simp only[go_sem,Aw,Ab,Int.toNat_natCast,Gl,Bm,JV,Ex,c1];rw[BC (fun hp=>by have:=G4.1 hp;simp at c1;omega)]
   cases c2:decide ((g.length:Int)≤y);rotate_left
   · simp only[go_sem,Aw,Ab,Int.toNat_natCast,Gl,Bm,JV,Ex,c1,c2];rw[BC (fun hp=>by have:=G4.1 hp;simp at c2;omega)]
   cases c3:decide (y=(i:Int));rotate_left
   · simp only[go_sem,Aw,Ab,Int.toNat_natCast,Gl,Bm,JV,Ex,c1,c2,c3];rw[BC (fun hp=>by have:=G4.1 hp;simp at c3;omega)]
   cases c4:decide (y≤z);rotate_left
   · simp only[go_sem,Aw,Ab,Int.toNat_natCast,Gl,Bm,JV,Ex,hgm,hm0,hwp,hkp,c1,c2,c3,c4];rw[BC (fun hp=>by have:=(G4.1 hp).2.2.2 (by omega);simp at c4;omega)]
   simp only[go_sem,Aw,Ab,Int.toNat_natCast,Gl,Bm,JV,Ex,hgm,hm0,hwp,hkp,c1,c2,c3,c4,D5];refine Fi (m+1+1) _ ⟨HK,Rw (G4.2 (by simp at c1 c2 c3 c4;exact ⟨by omega,by omega,c3,fun _=>by omega⟩))⟩ (by omega) ?_
   (refine Wk.forget ?_;simp[Le,AG,Av,get,Aa,Ac,Ad,D.ids,Ai,AO.ids,Ae,base];done)
def Yg (b:JN):Prop:=-9999≤b.x∧b.x≤9999∧-9999≤b.y∧b.y≤9999
instance (b:JN):Decidable (Yg b):=by unfold Yg;exact inferInstance
def FW (n:Nt):Prop:=1≤n.blocks.length∧n.blocks.length≤24∧n.next.length=n.blocks.length∧∀i,i<n.blocks.length→Yg (n.blocks.getD i C1)∧(n.next.getD i []).length≤4∧Gn n.blocks.length i (n.next.getD i [])
instance (n:Nt):Decidable (FW n):=by unfold FW;exact inferInstance
theorem Aei (n:Nt) (hb:n.blocks.length≤10000000) (hg:OD n.next):Aj Tryz.prog 83 [.agg n.cs] [] fun h r=>h=[]∧r= .p (.bool (decide (FW n))):=by
 obtain ⟨O4,TX⟩:=hg;obtain ⟨bl,nx,sp,rb,cq,ca,cd,cp⟩:=n;simp only at hb O4 TX;refine Ak Tryz.func83 rfl Aig (by simp[Tryz.f83]) ?_;cases d1:decide ((bl.length:Int)<1);rotate_left
 · simp only[go_sem,Nt.cs,Ay,Aw,d1];rw[decide_eq_false (fun hp=>by have:=hp.1;have hd:=of_decide_eq_true d1;simp only at this;omega)]
 cases d2:decide (24<(bl.length:Int));rotate_left
 · simp only[go_sem,Nt.cs,Ay,Aw,d1,d2];rw[decide_eq_false (fun hp=>by have:=hp.2.1;simp at d2;simp only at this;omega)]
 cases d3:decide ((nx.length:Int)=(bl.length:Int))
 · simp only[go_sem,Nt.cs,Ay,Aw,d1,d2,d3];rw[decide_eq_false (fun hp=>by have:=hp.2.2.1;have hd:=of_decide_eq_false d3;simp only at this;omega)]
 have hl1:1≤bl.length:=by have:=of_decide_eq_false d1;omega
 have RE:bl.length≤24:=by have:=of_decide_eq_false d2;omega
 have hl3:nx.length=bl.length:=by have:=of_decide_eq_true d3;omega
 simp only[go_sem,Nt.cs,Ay,Aw,d1,d2,d3];clear d1 d2 d3;refine Ao (fun i:Nat=>⟨[(1,.ptr 1 0),(3,.p (.int .i64 (i:Nat)))],[(1,.box (Nt.cs ⟨bl,nx,sp,rb,cq,ca,cd,cp⟩))],114⟩) (fun i=>i≤bl.length∧∀j,j<i→Yg (bl.getD j C1)∧(nx.getD j []).length≤4∧Gn bl.length j (nx.getD j [])) (fun i=>bl.length - i) 0 ⟨Nat.zero_le _,fun j hj=>absurd hj (Nat.not_lt_zero _)⟩ (Wk.forget (by simp[Le,AG,Av,get,Aa,Ac,Ad,D.ids,Ai,AO.ids,Ae,base,Nt.cs])) ?_;rintro i n ⟨hi,IG⟩ ih;simp only[go_sem,Nt.cs,Ay];refine AK (fun h2=>?_) (fun h2=>?_);rotate_left
 · simp only[go_sem];have:i=bl.length:=by simp at h2;omega
   subst this;rw[decide_eq_true ⟨hl1,RE,hl3,IG⟩]
 have AL:i<bl.length:=by simp at h2;omega
 have hw:=As i (by omega);have Yo:=TX _ (A7 nx i [] (by omega));have Gl:=DH nx i (by omega);have hgb:=HC bl i AL;have PM:¬(Yg (bl.getD i C1)∧(nx.getD i []).length≤4∧Gn bl.length i (nx.getD i []))→decide (FW ⟨bl,nx,sp,rb,cq,ca,cd,cp⟩)=false:=fun h=>decide_eq_false (fun hp=>h (hp.2.2.2 i AL));have Zw:(Yg (bl.getD i C1)∧(nx.getD i []).length≤4∧Gn bl.length i (nx.getD i []))→∀j,j<i+1→Yg (bl.getD j C1)∧(nx.getD j []).length≤4∧Gn bl.length j (nx.getD j []):=fun h j hj=>by
   rcases Nat.lt_succ_iff_lt_or_eq.1 hj with h3 | rfl
   · exact IG j h3
   · exact h
 generalize nx.getD i []=r at Yo Gl PM Zw;generalize bl.getD i C1=b at hgb PM Zw;have Bm:(0:Int)≤(i:Int)∧(i:Int)<(nx.length:Int):=by omega
 have HP:(i:Int)<(bl.length:Int):=by omega
 cases c1:decide (b.x< -9999);rotate_left
 · simp only[go_sem,Aw,Ay,Ab,Nt.cs,Int.toNat_natCast,Gl,hgb,Bm,HP,c1];rw[PM (fun hp=>by have:=hp.1.1;simp at c1;omega)]
 cases c2:decide (9999<b.x);rotate_left
 · simp only[go_sem,Aw,Ay,Ab,Nt.cs,Int.toNat_natCast,Gl,hgb,Bm,HP,c1,c2];rw[PM (fun hp=>by have:=hp.1.2.1;simp at c2;omega)]
 cases c3:decide (b.y< -9999);rotate_left
 · simp only[go_sem,Aw,Ay,Ab,Nt.cs,Int.toNat_natCast,Gl,hgb,Bm,HP,c1,c2,c3];rw[PM (fun hp=>by have:=hp.1.2.2.1;simp at c3;omega)]
 cases c4:decide (9999<b.y);rotate_left
 · simp only[go_sem,Aw,Ay,Ab,Nt.cs,Int.toNat_natCast,Gl,hgb,Bm,HP,c1,c2,c3,c4];rw[PM (fun hp=>by have:=hp.1.2.2.2;simp at c4;omega)]
 cases c5:decide (4<(r.length:Int));rotate_left
 · simp only[go_sem,Aw,Ay,Ab,Nt.cs,Int.toNat_natCast,Gl,hgb,Bm,HP,c1,c2,c3,c4,c5];rw[PM (fun hp=>by have:=hp.2.1;simp at c5;omega)]
 simp only[go_sem,Aw,Ay,Ab,Nt.cs,Int.toNat_natCast,Gl,hgb,Bm,HP,c1,c2,c3,c4,c5];have hxy:Yg b:=by simp at c1 c2 c3 c4;exact ⟨c1,c2,c3,c4⟩
 have hr4:r.length≤4:=by simp at c5;omega
 clear c1 c2 c3 c4 c5;have HS:¬Gn bl.length i r→decide (FW ⟨bl,nx,sp,rb,cq,ca,cd,cp⟩)=false:=fun h=>PM (fun hp=>h hp.2.2);have Ma:Gn bl.length i r→∀j,j<i+1→Yg (bl.getD j C1)∧(nx.getD j []).length≤4∧Gn bl.length j (nx.getD j []):=fun h=>Zw ⟨hxy,hr4,h⟩;refine Ao (fun k:Nat=>⟨[(1,.ptr 1 0),(3,.p (.int .i64 (i:Nat))),(4,.ptr 4 0),(5,.p (.int .i64 (k:Nat)))],[(1,.box (Nt.cs ⟨bl,nx,sp,rb,cq,ca,cd,cp⟩)),(4,.box [.p (.str b.name),.p (.int .i64 b.x),.p (.int .i64 b.y)])],114⟩) (fun k=>k≤r.length∧∀j,j<k→Hk bl.length i r j) (fun k=>r.length - k) 0 ⟨Nat.zero_le _,fun j hj=>absurd hj (Nat.not_lt_zero _)⟩ (Wk.forget (by simp[Le,AG,Av,get,Aa,Ac,Ad,D.ids,Ai,AO.ids,Ae,base,Nt.cs])) ?_;rintro k n2 ⟨hk,MC⟩ Fi;simp only[go_sem,Aw,Ay,Ab,Nt.cs,Int.toNat_natCast,Gl,Bm,HP];refine AK (fun h3=>?_) (fun h3=>?_);rotate_left
 · have:k=r.length:=by simp at h3;omega
   subst this;simp only[go_sem,hw];refine ih (i+1) _ ⟨AL,Ma MC⟩ (by omega) ?_
   (refine Wk.forget ?_;simp[Le,AG,Av,get,Aa,Ac,Ad,D.ids,Ai,AO.ids,Ae,base,Nt.cs];done)
 have HK:k<r.length:=by simp at h3;omega
 have D5:=As k (by omega);have JV:=AD r k HK;have Ex:(0:Int)≤(k:Int)∧(k:Int)<(r.length:Int):=by omega
 have G4:Hk bl.length i r k↔(0≤r.getD k 0∧r.getD k 0<(bl.length:Int)∧r.getD k 0≠(i:Int)∧(0<k→r.getD (k - 1) 0<r.getD k 0)):=Iff.rfl;have BC:¬Hk bl.length i r k→decide (FW ⟨bl,nx,sp,rb,cq,ca,cd,cp⟩)=false:=fun h=>HS (fun hp=>h (hp k HK));have Rw:Hk bl.length i r k→∀j,j<k+1→Hk bl.length i r j:=fun h j hj=>by
   rcases Nat.lt_succ_iff_lt_or_eq.1 hj with h4 | rfl
   · exact MC j h4
   · exact h
 rcases k with _ | m
 · have hz0:(0:Int)<(r.length:Int):=by omega
   have hwz:IntKind.i64.wrap (0+1)=1:=rfl;generalize r.getD 0 0=y at JV G4;cases c1:decide (y<0);rotate_left
   · simp only[go_sem,Aw,Ay,Ab,Nt.cs,Int.toNat_natCast,Gl,Bm,HP,JV,hz0,c1];rw[BC (fun hp=>by have:=G4.1 hp;simp at c1;omega)]
   cases c2:decide ((bl.length:Int)≤y);rotate_left
   · simp only[go_sem,Aw,Ay,Ab,Nt.cs,Int.toNat_natCast,Gl,Bm,HP,JV,hz0,c1,c2];rw[BC (fun hp=>by have:=G4.1 hp;simp at c2;omega)]
   cases c3:decide (y=(i:Int));rotate_left
   · simp only[go_sem,Aw,Ay,Ab,Nt.cs,Int.toNat_natCast,Gl,Bm,HP,JV,hz0,c1,c2,c3];rw[BC (fun hp=>by have:=G4.1 hp;simp at c3;omega)]
   simp only[go_sem,Aw,Ay,Ab,Nt.cs,Int.toNat_natCast,Gl,Bm,HP,JV,hz0,c1,c2,c3,hwz];refine Fi (0+1) _ ⟨HK,Rw (G4.2 (by simp at c1 c2 c3;exact ⟨by omega,by omega,c3,fun h=>absurd h (Nat.lt_irrefl _)⟩))⟩ (by omega) ?_
   (refine Wk.forget ?_;simp[Le,AG,Av,get,Aa,Ac,Ad,D.ids,Ai,AO.ids,Ae,base,Nt.cs];done)
 · have Zt:m<r.length:=by omega
   have hgm:=AD r m Zt;have hm0:(0:Int)≤(m:Int)∧(m:Int)<(r.length:Int):=by omega
   have hwp:=Fy m (by omega);have hkp:(0:Int)<((m+1:Nat):Int):=by omega
   rw[show m+1 - 1=m from rfl] at G4;generalize r.getD (m+1) 0=y at JV G4;generalize r.getD m 0=z at hgm G4;cases c1:decide (y<0);rotate_left
   · simp only[go_sem,Aw,Ay,Ab,Nt.cs,Int.toNat_natCast,Gl,Bm,HP,JV,Ex,c1];rw[BC (fun hp=>by have:=G4.1 hp;simp at c1;omega)]
   cases c2:decide ((bl.length:Int)≤y);rotate_left
   · simp only[go_sem,Aw,Ay,Ab,Nt.cs,Int.toNat_natCast,Gl,Bm,HP,JV,Ex,c1,c2];rw[BC (fun hp=>by have:=G4.1 hp;simp at c2;omega)]
   cases c3:decide (y=(i:Int));rotate_left
   · simp only[go_sem,Aw,Ay,Ab,Nt.cs,Int.toNat_natCast,Gl,Bm,HP,JV,Ex,c1,c2,c3];rw[BC (fun hp=>by have:=G4.1 hp;simp at c3;omega)]
   cases c4:decide (y≤z);rotate_left
   · simp only[go_sem,Aw,Ay,Ab,Nt.cs,Int.toNat_natCast,Gl,Bm,HP,JV,Ex,hgm,hm0,hwp,hkp,c1,c2,c3,c4];rw[BC (fun hp=>by have:=(G4.1 hp).2.2.2 (by omega);simp at c4;omega)]
   simp only[go_sem,Aw,Ay,Ab,Nt.cs,Int.toNat_natCast,Gl,Bm,HP,JV,Ex,hgm,hm0,hwp,hkp,c1,c2,c3,c4,D5];refine Fi (m+1+1) _ ⟨HK,Rw (G4.2 (by simp at c1 c2 c3 c4;exact ⟨by omega,by omega,c3,fun _=>by omega⟩))⟩ (by omega) ?_
   (refine Wk.forget ?_;simp[Le,AG,Av,get,Aa,Ac,Ad,D.ids,Ai,AO.ids,Ae,base,Nt.cs];done)
def BJ (n:Nt):List (List UInt8):=n.blocks.map JN.name++n.spurs.map BY.name
def Hn (n:Nt):Prop:=∀i,i<(BJ n).length→Bs ((BJ n).getD i [])=true∧∀k,k<i→(BJ n).getD i []≠(BJ n).getD k []
instance (n:Nt):Decidable (Hn n):=by unfold Hn;exact inferInstance
theorem L3 {α β:Type} (f:α→β) (l:List α) (i:Nat) (x:α) (h:i<l.length):(l.take (i+1)).map f=(l.take i).map f++[f (l.getD i x)]:=by
 rw[List.take_add_one,List.map_append,List.getD,List.getElem?_eq_getElem h];rfl
theorem Age (n:Nt) (hb:n.blocks.length≤10000000) (hs:n.spurs.length≤10000000):Aj Tryz.prog 84 [.agg n.cs] [] fun h r=>h=[]∧r= .p (.bool (decide (Hn n))):=by
 generalize hL:BJ n=L;have hLl:L.length=n.blocks.length+n.spurs.length:=by rw[←hL];simp[BJ]
 refine Ak Tryz.func84 rfl Aif (by simp[Tryz.f84]) ?_;simp only[go_sem,Nt.cs];refine Ao (fun i:Nat=>⟨[(1,.ptr 1 0),(3,.ref 23 0 i i),(4,.p (.int .i64 (i:Nat)))],[(1,.box (Nt.cs n)),(23,.arr 9 1 (AV ((n.blocks.take i).map JN.name)))],66⟩) (fun i=>i≤n.blocks.length) (fun i=>n.blocks.length - i) 0 (Nat.zero_le _) ((Wk.nil (t:=3) (q:=23) (sz:=1) 9 rfl rfl (by decide)).trans (Wk.forget (by simp[Le,AG,Av,get,Aa,Ac,Ad,D.ids,Ai,AO.ids,Ae,base,Nt.cs,AV]))) ?_;rintro i m hi ih;have hll:(AV ((n.blocks.take i).map JN.name)).length=i:=by rw[Aq];simp;omega
 simp only[go_sem,Nt.cs,Ay];refine AK (fun h2=>?_) (fun h2=>?_)
 · have AL:i<n.blocks.length:=by simp at h2;omega
   have hw:=As i (by omega);have hgb:=HC n.blocks i AL;have Bm:(0:Int)≤(i:Int)∧(i:Int)<(n.blocks.length:Int):=by omega
   simp only[go_sem,Ay,Nt.cs,Int.toNat_natCast,hgb,Bm,hll];refine ⟨⟨Cf _ _ rfl,by omega⟩,?_⟩;simp only[go_sem,hw];refine ih (i+1) _ AL (by omega) ?_
   (refine Wk.forget ?_;simp[Le,AG,Av,get,Aa,Ac,Ad,D.ids,Ai,AO.ids,Ae,base,Nt.cs,L3 JN.name n.blocks i C1 AL,CP,hll,-List.map_take];done)
 have:i=n.blocks.length:=by simp at h2;omega
 subst this;clear ih hll;simp only[go_sem];refine Ao (fun i:Nat=>⟨[(1,.ptr 1 0),(3,.ref 23 0 (n.blocks.length+i) (n.blocks.length+i)),(5,.p (.int .i64 (i:Nat)))],[(1,.box (Nt.cs n)),(23,.arr 9 1 (AV (n.blocks.map JN.name++(n.spurs.take i).map BY.name)))],66⟩) (fun i=>i≤n.spurs.length) (fun i=>n.spurs.length - i) 0 (Nat.zero_le _) (Wk.forget (by simp[Le,AG,Av,get,Aa,Ac,Ad,D.ids,Ai,AO.ids,Ae,base,Nt.cs,AV])) ?_;rintro i m2 C0 ih;have hll:(AV (n.blocks.map JN.name++(n.spurs.take i).map BY.name)).length=n.blocks.length+i:=by rw[Aq];simp;omega
 simp only[go_sem,Nt.cs,Ax];refine AK (fun h2=>?_) (fun h2=>?_)
 · have AL:i<n.spurs.length:=by simp at h2;omega
   have hw:=As i (by omega);have hgb:=CG n.spurs i AL;have Bm:(0:Int)≤(i:Int)∧(i:Int)<(n.spurs.length:Int):=by omega
   simp only[go_sem,Ax,Nt.cs,Int.toNat_natCast,hgb,Bm,hll];refine ⟨⟨Cf _ _ rfl,by omega⟩,?_⟩;simp only[go_sem,hw];refine ih (i+1) _ AL (by omega) ?_
   (refine Wk.forget ?_;simp[Le,AG,Av,get,Aa,Ac,Ad,D.ids,Ai,AO.ids,Ae,base,Nt.cs,L3 BY.name n.spurs i AP AL,CP,←List.append_assoc,Nat.add_assoc,hll,-List.map_take];done)
 have:i=n.spurs.length:=by simp at h2;omega
 subst this;clear ih hll;rw[List.take_length,show n.blocks.map JN.name++n.spurs.map BY.name=L from hL,←hLl];simp only[go_sem];have hP:Hn n↔∀i,i<L.length→Bs (L.getD i [])=true∧∀k,k<i→L.getD i []≠L.getD k []:=by unfold Hn;rw[hL]
 refine Ao (fun i:Nat=>⟨[(3,.ref 23 0 L.length L.length),(6,.p (.int .i64 (i:Nat)))],[(23,.arr 9 1 (AV L))],66⟩) (fun i=>i≤L.length∧∀j,j<i→Bs (L.getD j [])=true∧∀k,k<j→L.getD j []≠L.getD k []) (fun i=>L.length - i) 0 ⟨Nat.zero_le _,fun j hj=>absurd hj (Nat.not_lt_zero _)⟩ (Wk.forget (by simp[Le,AG,Av,get,Aa,Ac,Ad,D.ids,Ai,AO.ids,Ae,base,Nt.cs,AV])) ?_;rintro i m3 ⟨hi3,B4⟩ ih;simp only[go_sem,Aq];refine AK (fun h3=>?_) (fun h3=>?_);rotate_left
 · simp only[go_sem];have:i=L.length:=by simp at h3;omega
   subst this;rw[decide_eq_true (hP.2 B4)];try simp
 have AL:i<L.length:=by simp at h3;omega
 have hw:=As i (by omega);have Gl:=BT L i AL;have Bm:(0:Int)≤(i:Int)∧(i:Int)<(L.length:Int):=by omega
 simp only[go_sem,Aq,Int.toNat_natCast,Gl,Bm];refine Au ((WJ _)) ?_;rintro h' r ⟨rfl,rfl⟩;cases hn:Bs (L.getD i [])
 · simp only[go_sem,hn];rw[decide_eq_false (fun hp=>by have:=(hP.1 hp i AL).1;rw[hn] at this;cases this)];try simp
 simp only[go_sem,hn];refine Ao (fun k:Nat=>⟨[(3,.ref 23 0 L.length L.length),(6,.p (.int .i64 (i:Nat))),(7,.p (.int .i64 (k:Nat)))],[(23,.arr 9 1 (AV L))],66⟩) (fun k=>k≤i∧∀j,j<k→L.getD i []≠L.getD j []) (fun k=>i - k) 0 ⟨Nat.zero_le _,fun j hj=>absurd hj (Nat.not_lt_zero _)⟩ (Wk.forget (by simp[Le,AG,Av,get,Aa,Ac,Ad,D.ids,Ai,AO.ids,Ae,base,AV])) ?_;rintro k m4 ⟨hk,BC⟩ Fi;simp only[go_sem];refine AK (fun h4=>?_) (fun h4=>?_)
 · have HK:k<i:=by simp at h4;omega
   have D5:=As k (by omega);have JV:=BT L k (by omega);have Ex:(0:Int)≤(k:Int)∧(k:Int)<(L.length:Int):=by omega
   simp only[go_sem];refine BB [(23,.arr 9 1 (AV L))] mixed (p:=[(0,0),(1,0),(2,0),(3,0),(4,0),(5,0),(6,0),(7,0),(8,0)]) (by kernel_rfl) (by simp[Av,get]) ?_;simp only[go_sem,Aq,Int.toNat_natCast,Gl,Bm,JV,Ex];cases he:decide (L.getD i []=L.getD k [])
   · simp only[go_sem,he,D5];refine Fi (k+1) _ ⟨HK,fun j hj=>?_⟩ (by omega) ?_
     · rcases Nat.lt_succ_iff_lt_or_eq.1 hj with h5 | rfl
       · exact BC j h5
       · exact of_decide_eq_false he
     · (refine Wk.forget ?_;simp[Le,AG,Av,get,Aa,Ac,Ad,D.ids,Ai,AO.ids,Ae,base];done)
   · simp only[go_sem,he];rw[decide_eq_false (fun hp=>(hP.1 hp i AL).2 k HK (of_decide_eq_true he))];try simp
 · have:k=i:=by simp at h4;omega
   subst this;simp only[go_sem,hw];refine ih (k+1) _ ⟨AL,fun j hj=>?_⟩ (by omega) ?_
   · rcases Nat.lt_succ_iff_lt_or_eq.1 hj with h5 | rfl
     · exact B4 j h5
     · exact ⟨hn,BC⟩
   · (refine Wk.forget ?_;simp[Le,AG,Av,get,Aa,Ac,Ad,D.ids,Ai,AO.ids,Ae,base];done)
def JD (cq ca cd cp:Int):Prop:=1≤cq∧cq≤8∧0≤ca∧ca≤4∧0≤cd∧cd≤3∧1≤cp∧cp≤16
instance (cq ca cd cp:Int):Decidable (JD cq ca cd cp):=by unfold JD;exact inferInstance
theorem S8 (cq ca cd cp:Int):Aj Tryz.prog 85 [.agg [.p (.int .i64 cq),.p (.int .i64 ca),.p (.int .i64 cd),.p (.int .i64 cp)]] [] fun h r=>h=[]∧r= .p (.bool (decide (JD cq ca cd cp))):=by
 refine Ak Tryz.func85 rfl Aie (by simp[Tryz.f85]) ?_;by_cases h1:1≤cq;rotate_left
 · simp only[go_sem,h1];simp[JD,h1]
 by_cases h2:cq≤8;rotate_left
 · simp only[go_sem,h1,h2];simp[JD,h2]
 by_cases h3:0≤ca;rotate_left
 · simp only[go_sem,h1,h2,h3];simp[JD,h3]
 by_cases h4:ca≤4;rotate_left
 · simp only[go_sem,h1,h2,h3,h4];simp[JD,h4]
 by_cases h5:0≤cd;rotate_left
 · simp only[go_sem,h1,h2,h3,h4,h5];simp[JD,h5]
 by_cases h6:cd≤3;rotate_left
 · simp only[go_sem,h1,h2,h3,h4,h5,h6];simp[JD,h6]
 by_cases h7:1≤cp;rotate_left
 · simp only[go_sem,h1,h2,h3,h4,h5,h6,h7];simp[JD,h7]
 by_cases h8:cp≤16
 · simp only[go_sem,h1,h2,h3,h4,h5,h6,h7,h8];simp[JD,h1,h2,h3,h4,h5,h6,h7,h8]
 · simp only[go_sem,h1,h2,h3,h4,h5,h6,h7,h8];simp[JD,h8]
theorem Ef (l:List Bool):(Bf l).length=l.length:=by simp[Bf]
theorem Cm {α:Type} (l:List α) (i j:Nat) (x y:α):(l.set i x).getD j y=if i=j∧i<l.length then x else l.getD j y:=by
 simp only[List.getD,List.getElem?_set];by_cases h:i=j
 · subst h;by_cases h2:i<l.length
   · simp[h2]
   · simp[h2]
 · simp[h]
def Iu (g:List (List Int)) (sh:List Bool) (d:Int) (v:Nat) (o:List Int):List Int:=
 if sh.getD v false=true∨0≤o.getD v 0 then o else if (g.getD v []).any (fun w=>decide (o.getD w.toNat 0=d - 1))=true then o.set v d else o
def Hb (g:List (List Int)) (sh:List Bool) (d:Int):Nat→Nat→List Int→List Int
 | 0,_,o=>o
 | f+1,v,o=>Hb g sh d f (v+1) (Iu g sh d v o)
def H3 (g:List (List Int)) (sh:List Bool):Nat→Nat→List Int→List Int
 | 0,_,o=>o
 | f+1,d,o=>H3 g sh f (d+1) (Hb g sh d g.length 0 o)
def BG (g:List (List Int)) (sh:List Bool) (goal:Nat):List Int:=
 if sh.getD goal false=true then List.replicate g.length (-1) else H3 g sh (g.length - 1) 1 ((List.replicate g.length (-1)).set goal 0)
theorem Aa0 (g:List (List Int)) (sh:List Bool) (d:Int) (v:Nat) (o:List Int):(Iu g sh d v o).length=o.length:=by
 unfold Iu;split
 · rfl
 · split<;>simp
theorem Te (g:List (List Int)) (sh:List Bool) (d:Int):∀(f v:Nat) (o:List Int),(Hb g sh d f v o).length=o.length
 | 0,_,_=>rfl
 | f+1,v,o=>by rw[Hb,Te g sh d f,Aa0]
theorem Un (g:List (List Int)) (sh:List Bool):∀(f d:Nat) (o:List Int),(H3 g sh f d o).length=o.length
 | 0,_,_=>rfl
 | f+1,d,o=>by rw[H3,Un g sh f,Te]
theorem IY (g:List (List Int)) (sh:List Bool) (goal:Nat):(BG g sh goal).length=g.length:=by
 unfold BG;split
 · simp
 · rw[Un];simp
def DP (g:List (List Int)) (goal:Nat) (m:Int) (o:List Int):Prop:=
 o.length=g.length∧∀v,v<g.length→o.getD v 0=-1∨(o.getD v 0=0∧v=goal)∨(1≤o.getD v 0∧o.getD v 0≤m∧∃w∈g.getD v [],o.getD w.toNat 0=o.getD v 0 - 1)
theorem Wc {g:List (List Int)} (hg:B8 g) {sh:List Bool} {goal:Nat} {d:Int} {v:Nat} {o:List Int} (hv:v<g.length) (hd:1≤d) (h:DP g goal d o):DP g goal d (Iu g sh d v o):=by
 unfold Iu;split
 · exact h
 rename_i h1;split
 · rename_i h2;obtain ⟨hl,hh⟩:=h;have Amm:o.getD v 0<0:=by
     rcases Int.lt_or_le (o.getD v 0) 0 with h3 | h3
     · exact h3
     · exact absurd (Or.inr h3) h1
   refine ⟨by simpa using hl,fun u hu=>?_⟩;rw[List.any_eq_true] at h2;obtain ⟨w,hw,hwd⟩:=h2;have hwd:=of_decide_eq_true hwd;have Da:∀j,j<g.length→(o.set v d).getD j 0=if v=j then d else o.getD j 0:=fun j hj=>by
     rw[Cm];by_cases e:v=j
     · rw[if_pos ⟨e,by omega⟩,if_pos e]
     · rw[if_neg (fun h=>e h.1),if_neg e]
   have NQ:∀u,u<g.length→∀w∈g.getD u [],0≤w∧w<(g.length:Int)∧w≠(u:Int):=fun u hu w hw=>by
     obtain ⟨k,hk,rfl⟩:=List.mem_iff_getElem.1 hw;have:=hg.2 u hu k hk;unfold Hk at this;have e1:(g.getD u []).getD k 0=(g.getD u [])[k]:=getD_eq hk;rw[e1] at this;exact ⟨this.1,this.2.1,this.2.2.1⟩
   rw[Da u hu];by_cases e:v=u
   · subst e;rw[if_pos rfl];have h3:=NQ v hv w hw;refine .inr (.inr ⟨hd,Int.le_refl _,w,hw,?_⟩);rw[Da _ (by omega),if_neg (by omega)];exact hwd
   · rw[if_neg e];rcases hh u hu with h3 | h3 | ⟨h3,h4,w2,h5,h6⟩
     · exact .inl h3
     · exact .inr (.inl h3)
     · refine .inr (.inr ⟨h3,h4,w2,h5,?_⟩);have h7:=NQ u hu w2 h5;rw[Da _ (by omega)];by_cases e2:v=w2.toNat
       · rw[e2] at Amm;omega
       · rw[if_neg e2];exact h6
 · exact h
theorem QJ {g:List (List Int)} (hg:B8 g) {sh:List Bool} {goal:Nat} {d:Int} (hd:1≤d):∀(f v:Nat) (o:List Int),v+f≤g.length→DP g goal d o→DP g goal d (Hb g sh d f v o)
 | 0,_,_,_,h=>h
 | f+1,v,o,hv,h=>QJ hg hd f (v+1) _ (by omega) (Wc hg (by omega) hd h)
theorem DP.mono {g:List (List Int)} {goal:Nat} {m m':Int} {o:List Int} (hm:m≤m') (h:DP g goal m o):DP g goal m' o:=
 ⟨h.1,fun v hv=>by
   rcases h.2 v hv with h3 | h3 | ⟨h3,h4,h5⟩
   · exact .inl h3
   · exact .inr (.inl h3)
   · exact .inr (.inr ⟨h3,by omega,h5⟩)⟩
theorem XN {g:List (List Int)} (hg:B8 g) {sh:List Bool} {goal:Nat}:∀(f d:Nat) (o:List Int),1≤d→DP g goal d o→DP g goal (d+f:Nat) (H3 g sh f d o)
 | 0,d,o,_,h=>h.mono (by omega)
 | f+1,d,o,hd,h=>by
   have:=XN (sh:=sh) hg f (d+1) (Hb g sh d g.length 0 o) (by omega) ((QJ hg (by omega) g.length 0 o (by omega) h).mono (by omega));rw[show d+1+f=d+(f+1) by omega] at this;exact this
theorem XE {g:List (List Int)} (hg:B8 g) (sh:List Bool) (goal:Nat) (Cw:goal<g.length):DP g goal 24 (BG g sh goal):=by
 have Abv:∀v,v<g.length→(List.replicate g.length (-1:Int)).getD v 0=-1:=fun v hv=>by simp[List.getD,hv]
 unfold BG;split
 · exact ⟨by simp,fun v hv=> .inl (Abv v hv)⟩
 · refine (XN hg (g.length - 1) 1 _ (Nat.le_refl _) ⟨by simp,fun v hv=>?_⟩).mono (by have:=hg.1;omega);rw[Cm];by_cases e:goal=v
   · rw[if_pos ⟨e,by simpa using Cw⟩];exact .inr (.inl ⟨rfl,e.symm⟩)
   · rw[if_neg (fun h=>e h.1)];exact .inl (Abv v hv)
theorem QX {g:List (List Int)} (hg:B8 g) {u:Nat} (hu:u<g.length) {k:Nat} (hk:k<(g.getD u []).length):∃w:Nat,(g.getD u []).getD k 0=(w:Int)∧w<g.length∧w≠u:=by
 have:=hg.2 u hu k hk;unfold Hk at this;exact ⟨((g.getD u []).getD k 0).toNat,by omega,by omega,by omega⟩
theorem Eo {g:List (List Int)} (hg:B8 g) {u:Nat} (hu:u<g.length) {w:Int} (hw:w∈g.getD u []):0≤w∧w<(g.length:Int)∧w≠(u:Int):=by
 obtain ⟨k,hk,rfl⟩:=List.mem_iff_getElem.1 hw;have:=hg.2 u hu k hk;unfold Hk at this;have e1:(g.getD u []).getD k 0=(g.getD u [])[k]:=getD_eq hk;rw[e1] at this;exact ⟨this.1,this.2.1,this.2.2.1⟩
structure DS (g:List (List Int)) (sh:List Bool) (goal:Nat) (o:List Int):Prop where
 len:o.length=g.length
 lo:∀v,v<g.length→-1≤o.getD v 0
 zero:∀v,v<g.length→(o.getD v 0=0↔v=goal)
 prev:∀v,v<g.length→1≤o.getD v 0→∃w∈g.getD v [],o.getD w.toNat 0=o.getD v 0 - 1
 next:∀v,v<g.length→sh.getD v false=false→∀w∈g.getD v [],0≤o.getD w.toNat 0→0≤o.getD v 0∧o.getD v 0≤o.getD w.toNat 0+1
 shut:∀v,v<g.length→sh.getD v false=true→o.getD v 0=-1
theorem DS.le {g:List (List Int)} (hg:B8 g) {sh:List Bool} {goal:Nat} {o p:List Int} (ho:DS g sh goal o) (hp:DS g sh goal p):
   ∀(k:Nat) (v:Nat),v<g.length→o.getD v 0=(k:Int)→0≤p.getD v 0∧p.getD v 0≤(k:Int)
 | 0,v,hv,h=>by
   have h1:=(ho.zero v hv).1 h;have h2:=(hp.zero v hv).2 h1;omega
 | k+1,v,hv,h=>by
   obtain ⟨w,hw,hd⟩:=ho.prev v hv (by omega);have hr:=Eo hg hv hw;have ih:=DS.le hg ho hp k w.toNat (by omega) (by omega);have hs:sh.getD v false=false:=by
     cases e:sh.getD v false
     · rfl
     · have:=ho.shut v hv e;omega
   have:=hp.next v hv hs w hw ih.1
   omega
theorem DS.uniq {g:List (List Int)} (hg:B8 g) {sh:List Bool} {goal:Nat} {o p:List Int} (ho:DS g sh goal o) (hp:DS g sh goal p):o=p:=by
 apply List.ext_getElem (by rw[ho.len,hp.len]);intro v h1 h2;have hv:v<g.length:=by rw[←ho.len];exact h1
 have e1:o.getD v 0=o[v]:=getD_eq h1;have e2:p.getD v 0=p[v]:=getD_eq h2;rw[←e1,←e2];have l1:=ho.lo v hv;have l2:=hp.lo v hv;by_cases c:0≤o.getD v 0
 · have a:=DS.le hg ho hp (o.getD v 0).toNat v hv (by omega);have b:=DS.le hg hp ho (p.getD v 0).toNat v hv (by omega);omega
 · by_cases c2:0≤p.getD v 0
   · have b:=DS.le hg hp ho (p.getD v 0).toNat v hv (by omega);omega
   · omega
def NX (g:List (List Int)) (sh:List Bool) (d:Int) (v:Nat) (o:List Int):Prop:=
 ∀u,u<g.length→sh.getD u false=false→∀w∈g.getD u [],0≤o.getD w.toNat 0→(o.getD w.toNat 0<d - 1∨(o.getD w.toNat 0=d - 1∧u<v))→0≤o.getD u 0∧o.getD u 0≤o.getD w.toNat 0+1
theorem Af8 {g:List (List Int)} (hg:B8 g) {sh:List Bool} {goal:Nat} {d:Int} {v:Nat} {o:List Int} (hv:v<g.length) (hd:1≤d) (h:DP g goal d o) (hx:NX g sh d v o):NX g sh d (v+1) (Iu g sh d v o):=by
 unfold Iu;split
 · rename_i h1;intro u hu hs w hw h0 hc;by_cases e:u=v
   · subst e;have h2:0≤o.getD u 0:=by
       rcases h1 with h1 | h1
       · rw[hs] at h1;cases h1
       · exact h1
     rcases hc with hc | hc
     · exact hx u hu hs w hw h0 (.inl hc)
     · refine ⟨h2,?_⟩;rcases h.2 u hu with h3 | h3 | h3<;>omega
   · exact hx u hu hs w hw h0 (by omega)
 · rename_i h1;split
   · rename_i h2;have Amm:o.getD v 0<0:=by
       rcases Int.lt_or_le (o.getD v 0) 0 with h3 | h3
       · exact h3
       · exact absurd (Or.inr h3) h1
     intro u hu hs w hw;have hr:=Eo hg hu hw;rw[Cm,Cm];have hl:=h.1;by_cases e2:v=w.toNat
     · rw[if_pos ⟨e2,by omega⟩];intro _ hc;omega
     · rw[if_neg (fun h=>e2 h.1)];intro h0 hc;by_cases e:v=u
       · subst e;rw[if_pos ⟨rfl,by omega⟩];refine ⟨by omega,?_⟩;rcases Int.lt_or_le (o.getD w.toNat 0) (d - 1) with h3 | h3
         · have:=hx v hu hs w hw h0 (.inl h3);omega
         · omega
       · rw[if_neg (fun h=>e h.1)];exact hx u hu hs w hw h0 (by omega)
   · rename_i h2;intro u hu hs w hw h0 hc;by_cases e:u=v
     · subst e;rcases hc with hc | hc
       · exact hx u hu hs w hw h0 (.inl hc)
       · exact absurd (List.any_eq_true.2 ⟨w,hw,decide_eq_true hc.1⟩) h2
     · exact hx u hu hs w hw h0 (by omega)
theorem We {g:List (List Int)} (hg:B8 g) {sh:List Bool} {goal:Nat} {d:Int} (hd:1≤d):∀(f v:Nat) (o:List Int),v+f≤g.length→DP g goal d o→NX g sh d v o→NX g sh d (v+f) (Hb g sh d f v o)
 | 0,_,_,_,_,h=>h
 | f+1,v,o,hv,h,hx=>by
   have:=We hg hd f (v+1) _ (by omega) (Wc hg (sh:=sh) (by omega) hd h) (Af8 hg (by omega) hd h hx);rw[show v+1+f=v+(f+1) by omega] at this;exact this
theorem XM {g:List (List Int)} (hg:B8 g) {sh:List Bool} {goal:Nat}:∀(f d:Nat) (o:List Int),1≤d→DP g goal ((d - 1:Nat):Int) o→NX g sh d 0 o→NX g sh ((d+f:Nat):Int) 0 (H3 g sh f d o)∧DP g goal ((d+f - 1:Nat):Int) (H3 g sh f d o)
 | 0,d,o,hd,h,hx=>⟨hx,h⟩
 | f+1,d,o,hd,h,hx=>by
   have hD:DP g goal (d:Int) o:=h.mono (by omega);have h1:=QJ (sh:=sh) hg (d:=(d:Int)) (by omega) g.length 0 o (by omega) hD;have h2:=We (sh:=sh) hg (d:=(d:Int)) (by omega) g.length 0 o (by omega) hD hx;have h3:NX g sh ((d+1:Nat):Int) 0 (Hb g sh d g.length 0 o):=fun u hu hs w hw h0 hc=>by
     refine h2 u hu hs w hw h0 ?_;rcases Int.lt_or_le ((Hb g sh d g.length 0 o).getD w.toNat 0) ((d:Int) - 1) with h4 | h4
     · exact .inl h4
     · exact .inr ⟨by omega,by omega⟩
   have:=XM hg f (d+1) _ (by omega) (show DP g goal ((d+1 - 1:Nat):Int) _ by rw[show d+1 - 1=d by omega];exact h1) h3;rw[show d+1+f=d+(f+1) by omega] at this;exact this
theorem QI {g:List (List Int)} {sh:List Bool} {d:Int} {v u:Nat} {o:List Int} (h:0≤o.getD u 0∨sh.getD u false=true):(Iu g sh d v o).getD u 0=o.getD u 0:=by
 unfold Iu;split
 · rfl
 · rename_i h1;split
   · rw[Cm];by_cases e:v=u
     · subst e;rcases h with h | h
       · exact absurd (Or.inr h) h1
       · exact absurd (Or.inl h) h1
     · rw[if_neg (fun h=>e h.1)]
   · rfl
theorem Mh {g:List (List Int)} {sh:List Bool} {d:Int} {u:Nat}:∀(f v:Nat) (o:List Int),(0≤o.getD u 0∨sh.getD u false=true)→(Hb g sh d f v o).getD u 0=o.getD u 0
 | 0,_,_,_=>rfl
 | f+1,v,o,h=>by
   rw[Hb,Mh f (v+1) _ (by rw[QI h];exact h),QI h]
theorem Se {g:List (List Int)} {sh:List Bool} {u:Nat}:∀(f d:Nat) (o:List Int),(0≤o.getD u 0∨sh.getD u false=true)→(H3 g sh f d o).getD u 0=o.getD u 0
 | 0,_,_,_=>rfl
 | f+1,d,o,h=>by
   rw[H3,Se f (d+1) _ (by rw[Mh _ _ _ h];exact h),Mh _ _ _ h]
theorem DP.chain {g:List (List Int)} (hg:B8 g) {goal:Nat} {m:Int} {o:List Int} (h:DP g goal m o):∀(k v:Nat),v<g.length→o.getD v 0=(k:Int)→∃l:List Int,l.Nodup∧l.length=k+1∧∀x∈l,0≤x∧x<(g.length:Int)∧0≤o.getD x.toNat 0∧o.getD x.toNat 0≤(k:Int)
 | 0,v,hv,e=>⟨[(v:Int)],by simp,rfl,fun x hx=>by
     simp only[List.mem_singleton] at hx;subst hx;simp only[Int.toNat_natCast];omega⟩
 | k+1,v,hv,e=>by
   rcases h.2 v hv with h3 | h3 | ⟨_,_,w,hw,h4⟩
   · omega
   · omega
   · have hr:=Eo hg hv hw;obtain ⟨l,h5,h6,h7⟩:=DP.chain hg h k w.toNat (by omega) (by omega);refine ⟨(v:Int)::l,?_,by simp[h6],?_⟩
     · rw[List.nodup_cons];refine ⟨fun hm=>?_,h5⟩;have:=h7 _ hm;simp only[Int.toNat_natCast] at this;omega
     · intro x hx;rcases List.mem_cons.1 hx with rfl | hx
       · simp only[Int.toNat_natCast];omega
       · have:=h7 x hx;omega
theorem Sb {g:List (List Int)} (hg:B8 g) {sh:List Bool} {goal:Nat} (Cw:goal<g.length) (ho:sh.getD goal false=false):DS g sh goal (BG g sh goal):=by
 have Abv:∀v,v<g.length→(List.replicate g.length (-1:Int)).getD v 0=-1:=fun v hv=>by simp[List.getD,hv]
 have e0:BG g sh goal=H3 g sh (g.length - 1) 1 ((List.replicate g.length (-1)).set goal 0):=by
   unfold BG;rw[ho];rfl
 have hz:∀u,u<g.length→((List.replicate g.length (-1:Int)).set goal 0).getD u 0=if u=goal then 0 else -1:=fun u hu=>by
   rw[Cm];by_cases e:goal=u
   · rw[if_pos ⟨e,by simpa using Cw⟩,if_pos e.symm]
   · rw[if_neg (fun h=>e h.1),if_neg (fun h=>e h.symm),Abv u hu]
 have hD0:DP g goal ((1 - 1:Nat):Int) ((List.replicate g.length (-1)).set goal 0):=⟨by simp,fun u hu=>by
   rw[hz u hu];by_cases e:u=goal
   · rw[if_pos e];exact .inr (.inl ⟨rfl,e⟩)
   · rw[if_neg e];exact .inl rfl⟩
 have hN0:NX g sh ((1:Nat):Int) 0 ((List.replicate g.length (-1)).set goal 0):=fun u hu hs w hw h0 hc=>by omega
 obtain ⟨hN,hD⟩:=XM hg (g.length - 1) 1 _ (Nat.le_refl _) hD0 hN0;have hk:∀u,u<g.length→(u=goal∨sh.getD u false=true)→(BG g sh goal).getD u 0=if u=goal then 0 else -1:=fun u hu hc=>by
   rw[e0,Se _ _ _ ?_,hz u hu];rcases hc with hc | hc
   · left;rw[hz u hu,if_pos hc];omega
   · exact .inr hc
 rw[←e0] at hN hD;rw[show 1+(g.length - 1)=g.length by omega] at hN hD;refine ⟨IY g sh goal,?_,?_,?_,?_,?_⟩
 · intro v hv;rcases hD.2 v hv with h | h | h<;>omega
 · intro v hv;constructor
   · intro e;rcases hD.2 v hv with h | h | h
     · omega
     · exact h.2
     · omega
   · rintro rfl;have:=hk v hv (.inl rfl);rw[if_pos rfl] at this;exact this
 · intro v hv h1;rcases hD.2 v hv with h | h | h
   · omega
   · omega
   · exact h.2.2
 · intro v hv hs w hw h0;have hr:=Eo hg hv hw;rcases Int.lt_or_le ((BG g sh goal).getD w.toNat 0) ((g.length:Int) - 1) with h4 | h4
   · exact hN v hv hs w hw h0 (.inl h4)
   · have hb:∀u,u<g.length→(BG g sh goal).getD u 0≤(g.length:Int) - 1:=fun u hu=>by
       rcases hD.2 u hu with h | h | h<;>omega
     have TS:=hb w.toNat (by omega);have Qu:=hb v hv;refine ⟨?_,by omega⟩;rcases Int.lt_or_le ((BG g sh goal).getD v 0) 0 with h5 | h5
     · exfalso;obtain ⟨l,h6,h7,h8⟩:=DP.chain hg hD (g.length - 1) w.toNat (by omega) (by omega);have:=Ag8 ((v:Int)::l) ((List.range g.length).map (fun j=>((j:Nat):Int))) (by
         rw[List.nodup_cons];refine ⟨fun hm=>?_,h6⟩;have:=h8 _ hm;simp only[Int.toNat_natCast] at this;omega) (fun x hx=>by
         rw[List.mem_map];rcases List.mem_cons.1 hx with rfl | hx
         · exact ⟨v,List.mem_range.2 hv,rfl⟩
         · have:=h8 x hx;exact ⟨x.toNat,List.mem_range.2 (by omega),by omega⟩)
       simp only[List.length_cons,List.length_map,List.length_range] at this;omega
     · exact h5
 · intro v hv hs;have:=hk v hv (.inr hs);rw[if_neg (fun e=>by rw[e,ho] at hs;cases hs)] at this;exact this
def DY (o:List Int) (b w:Int):Int:=if 0≤o.getD w.toNat 0∧(b<0∨o.getD w.toNat 0<o.getD b.toNat 0) then w else b
def Gj (o row:List Int):Int:=row.foldl (DY o) (-1)
def HO (o row:List Int) (m:Int):Int:=(row.find? fun w=>decide (o.getD w.toNat 0=m)).getD (-1)
theorem Sq (o:List Int) (m:Int):∀(row:List Int) (b:Int),0≤b→o.getD b.toNat 0=m→(∀w∈row,0≤o.getD w.toNat 0→m≤o.getD w.toNat 0)→row.foldl (DY o) b=b
 | [],_,_,_,_=>rfl
 | w::row,b,hb,he,h=>by
   have e:DY o b w=b:=by
     unfold DY;rw[if_neg];rintro ⟨h1,h2⟩;have:=h w (by simp) h1;omega
   rw[List.foldl_cons,e];exact Sq o m row b hb he (fun x hx=>h x (by simp[hx]))
theorem Ss (o:List Int) (m:Int) (hm:0≤m):∀(row:List Int) (b:Int),(∀w∈row,0≤w)→(b=-1∨(0≤b∧m<o.getD b.toNat 0))→(∀w∈row,0≤o.getD w.toNat 0→m≤o.getD w.toNat 0)→(∃w∈row,o.getD w.toNat 0=m)→row.foldl (DY o) b=HO o row m
 | [],_,_,_,_,h=>by obtain ⟨w,hw,_⟩:=h;simp at hw
 | w::row,b,hp,hb,h,hx=>by
   have hw:=h w (by simp);rw[List.foldl_cons];unfold HO;by_cases c:o.getD w.toNat 0=m
   · have e:DY o b w=w:=by
       unfold DY;rw[if_pos ⟨by omega,by omega⟩]
     rw[e,Sq o m row w (hp w (by simp)) c (fun x hx=>h x (by simp[hx]))];rw[List.find?_cons,decide_eq_true c];rfl
   · have Jo:∃x∈row,o.getD x.toNat 0=m:=by
       obtain ⟨x,h1,h2⟩:=hx;rcases List.mem_cons.1 h1 with rfl | h1
       · exact absurd h2 c
       · exact ⟨x,h1,h2⟩
     have SI:DY o b w=-1∨(0≤DY o b w∧m<o.getD (DY o b w).toNat 0):=by
       unfold DY;split
       · rename_i h1;exact .inr ⟨hp w (by simp),by omega⟩
       · exact hb
     rw[Ss o m hm row _ (fun x hx=>hp x (by simp[hx])) SI (fun x hx=>h x (by simp[hx])) Jo];unfold HO;rw[List.find?_cons,decide_eq_false c]
theorem G8 (o:List Int):∀(row:List Int) (b:Int),row.foldl (DY o) b=b∨(row.foldl (DY o) b∈row∧0≤o.getD (row.foldl (DY o) b).toNat 0)
 | [],_=> .inl rfl
 | w::row,b=>by
   rw[List.foldl_cons];rcases G8 o row (DY o b w) with h | h
   · rw[h];unfold DY;split
     · rename_i h1;exact .inr ⟨by simp,h1.1⟩
     · exact .inl rfl
   · exact .inr ⟨by simp[h.1],h.2⟩
theorem DS.Akl {g:List (List Int)} (hg:B8 g) {sh:List Bool} {goal:Nat} {o:List Int} (ho:DS g sh goal o) {v:Nat} (hv:v<g.length) (h1:1≤o.getD v 0):
   Gj o (g.getD v [])=HO o (g.getD v []) (o.getD v 0 - 1):=by
 have hs:sh.getD v false=false:=by
   cases e:sh.getD v false
   · rfl
   · have:=ho.shut v hv e;omega
 exact Ss o _ (by omega) _ _ (fun w hw=>(Eo hg hv hw).1) (.inl rfl) (fun w hw h0=>by have:=ho.next v hv hs w hw h0;omega) (ho.prev v hv h1)
theorem Ahe {o row:List Int} {m:Int} (h:∃w∈row,o.getD w.toNat 0=m):HO o row m∈row∧o.getD (HO o row m).toNat 0=m:=by
 unfold HO;obtain ⟨w,hw,he⟩:=h;cases c:row.find? fun w=>decide (o.getD w.toNat 0=m) with
 | none=>rw[List.find?_eq_none] at c;exact absurd (decide_eq_true he) (c w hw)
 | some x=>exact ⟨List.mem_of_find?_eq_some c,by simpa using List.find?_some c⟩
def LM (g:List (List Int)) (o:List Int):Nat→Int→List Int
 | 0,_=>[]
 | f+1,v=>v::LM g o f (HO o (g.getD v.toNat []) (o.getD v.toNat 0 - 1))
def D7 (g:List (List Int)) (sh:List Bool) (v:Nat):List Int:=
 if sh.getD v false=true then []
 else
   let o:=BG g sh v
   let b:=Gj o (g.getD v [])
   if b<0 then [] else (v:Int)::LM g o (o.getD b.toNat 0).toNat b
theorem Is (g:List (List Int)) (o:List Int):∀(f:Nat) (v:Int),(LM g o f v).length=f
 | 0,_=>rfl
 | f+1,v=>by rw[LM,List.length_cons,Is]
def Ju (Akl w:List Int):List Int:=if 0<w.length∧(Akl.length=0∨w.length<Akl.length) then w else Akl
def Dj (g:List (List Int)) (sh:List Bool):List Int:=((List.range g.length).map (D7 g sh)).foldl Ju []
def Ia (d:List Int):Nat:=d.countP fun x=>decide (x<0)
theorem Rb {d:List Int} {v:Nat} {x:Int} (hv:v<d.length) (h:d.getD v 0<0) (hx:0≤x):Ia (d.set v x)+1=Ia d:=by
 have e:d.getD v 0=d[v]:=getD_eq hv;rw[e] at h;have hp:0<Ia d:=by
   unfold Ia;rw[List.countP_pos_iff];exact ⟨d[v],List.getElem_mem hv,decide_eq_true h⟩
 have h2:Ia (d.set v x)=Ia d - 1:=by
   unfold Ia;rw[List.countP_set (h:=hv),if_pos (decide_eq_true h),if_neg (by simpa using hx)];rfl
 omega
structure BF (g:List (List Int)) (sh:List Bool) (goal:Nat) (w:Int) (v:Nat) (d q:List Int):Prop where
 len:d.length=g.length
 lo:∀u,u<g.length→-1≤d.getD u 0
 zero:∀u,u<g.length→(d.getD u 0=0↔u=goal)
 prev:∀u,u<g.length→1≤d.getD u 0→∃y∈g.getD u [],d.getD y.toNat 0=d.getD u 0 - 1
 shut:∀u,u<g.length→sh.getD u false=true→d.getD u 0=-1
 qin:∀x∈q,0≤x∧x<(g.length:Int)∧0≤d.getD x.toNat 0
 sorted:q.Pairwise fun x y=>d.getD x.toNat 0≤d.getD y.toNat 0
 top:∀x∈q,∀u,u<g.length→d.getD u 0≤d.getD x.toNat 0+1
 done:∀y:Int,0≤y→y<(g.length:Int)→0≤d.getD y.toNat 0→y∉q→∀u,u<g.length→(y=w→u<v)→sh.getD u false=false→y∈g.getD u []→0≤d.getD u 0∧d.getD u 0≤d.getD y.toNat 0+1
 bnd:∀u,u<g.length→d.getD u 0+(Ia d:Nat)≤(g.length:Int) - 1
 Ag2:q.length+Ia d≤g.length
 cur:0≤w→w<(g.length:Int)∧0≤d.getD w.toNat 0∧(∀u,u<g.length→d.getD u 0≤d.getD w.toNat 0+1)∧∀x∈q,d.getD w.toNat 0≤d.getD x.toNat 0
theorem BF.init {g:List (List Int)} {sh:List Bool} {goal:Nat} (Cw:goal<g.length) (ho:sh.getD goal false=false):BF g sh goal (-1) 0 ((List.replicate g.length (-1)).set goal 0) [(goal:Int)]:=by
 have hz:∀u,u<g.length→((List.replicate g.length (-1:Int)).set goal 0).getD u 0=if u=goal then 0 else -1:=fun u hu=>by
   rw[Cm];by_cases e:goal=u
   · rw[if_pos ⟨e,by simpa using Cw⟩,if_pos e.symm]
   · rw[if_neg (fun h=>e h.1),if_neg (fun h=>e h.symm)];simp[List.getD,hu]
 have hr:Ia (List.replicate g.length (-1))=g.length:=by
   unfold Ia;rw[List.countP_replicate];simp
 have hn:Ia ((List.replicate g.length (-1)).set goal 0)+1=g.length:=by
   rw[Rb (by simpa using Cw) (by simp[List.getD,Cw]) (by omega),hr]
 refine ⟨by simp,fun u hu=>?_,fun u hu=>?_,fun u hu h=>?_,fun u hu h=>?_,fun x hx=>?_,by simp,fun x hx u hu=>?_,fun y hy VV hy3 hy4 u hu=>?_,fun u hu=>?_,by simp only[List.length_singleton];omega,fun h=>by omega⟩
 · rw[hz u hu];split<;>omega
 · rw[hz u hu];split<;>simp_all
 · rw[hz u hu] at h;split at h<;>omega
 · rw[hz u hu,if_neg];rintro rfl;rw[ho] at h;cases h
 · rw[List.mem_singleton] at hx;subst hx;rw[show ((goal:Nat):Int).toNat=goal by omega,hz goal Cw,if_pos rfl];omega
 · rw[List.mem_singleton] at hx;subst hx;rw[show ((goal:Nat):Int).toNat=goal by omega,hz goal Cw,if_pos rfl,hz u hu];split<;>omega
 · rw[hz _ (by omega)] at hy3;split at hy3
   · rename_i e;exact absurd (List.mem_singleton.2 (by omega)) hy4
   · omega
 · rw[hz u hu];split<;>omega
theorem BF.pop {g:List (List Int)} {sh:List Bool} {goal:Nat} {d q:List Int} {w:Int} {w0:Int} {v:Nat} (h:BF g sh goal w0 v d (w::q)) (hv:w0<0∨v=g.length):BF g sh goal w 0 d q:=by
 have hw:=h.qin w (by simp);refine ⟨h.len,h.lo,h.zero,h.prev,h.shut,fun x hx=>h.qin x (by simp[hx]),(List.pairwise_cons.1 h.sorted).2,fun x hx=>h.top x (by simp[hx]),?_,h.bnd,by have:=h.Ag2;simp only[List.length_cons] at this;omega,fun _=>⟨hw.2.1,hw.2.2,h.top w (by simp),fun x hx=>(List.pairwise_cons.1 h.sorted).1 x hx⟩⟩;intro y hy VV hy3 hy4 u hu hc hs hm;by_cases e:y=w
 · have:=hc e;omega
 · refine h.done y hy VV hy3 (fun hx=>?_) u hu (fun e2=>by omega) hs hm;rcases List.mem_cons.1 hx with h1 | h1
   · exact e h1
   · exact hy4 h1
theorem BF.skip {g:List (List Int)} {sh:List Bool} {goal:Nat} {d q:List Int} {w:Int} {v:Nat} (h:BF g sh goal w v d q) (Ol:0≤w) (hc:0≤d.getD v 0∨sh.getD v false=true∨w∉g.getD v []):BF g sh goal w (v+1) d q:=by
 refine ⟨h.len,h.lo,h.zero,h.prev,h.shut,h.qin,h.sorted,h.top,?_,h.bnd,h.Ag2,h.cur⟩;intro y hy VV hy3 hy4 u hu hv hs hm;by_cases e:u=v
 · subst e;by_cases e2:y=w
   · subst e2;rcases hc with hc | hc | hc
     · exact ⟨hc,(h.cur Ol).2.2.1 u hu⟩
     · rw[hs] at hc;cases hc
     · exact absurd hm hc
   · exact h.done y hy VV hy3 hy4 u hu (fun e3=>absurd e3 e2) hs hm
 · exact h.done y hy VV hy3 hy4 u hu (fun e3=>by have:=hv e3;omega) hs hm
theorem BF.push {g:List (List Int)} {sh:List Bool} {goal:Nat} {d q:List Int} {w:Int} {v:Nat} (h:BF g sh goal w v d q) (Ol:0≤w) (hv:v<g.length) (hd:d.getD v 0<0) (hs:sh.getD v false=false) (hm:w∈g.getD v []):
   BF g sh goal w (v+1) (d.set v (d.getD w.toNat 0+1)) (q++[(v:Int)]):=by
 obtain ⟨hc1,Vn,hc3,hc4⟩:=h.cur Ol;have hl:=h.len;have Da:∀u,(d.set v (d.getD w.toNat 0+1)).getD u 0=if u=v then d.getD w.toNat 0+1 else d.getD u 0:=fun u=>by
   rw[Cm];by_cases e:v=u
   · rw[if_pos ⟨e,by omega⟩,if_pos e.symm]
   · rw[if_neg (fun h=>e h.1),if_neg (fun h=>e h.symm)]
 have BC:∀y:Int,0≤d.getD y.toNat 0→(d.set v (d.getD w.toNat 0+1)).getD y.toNat 0=d.getD y.toNat 0:=fun y hy=>by
   rw[Da,if_neg];intro e;rw[e] at hy;omega
 have hn:=Rb (d:=d) (v:=v) (x:=d.getD w.toNat 0+1) (by omega) hd (by omega);refine ⟨by simpa using hl,fun u hu=>?_,fun u hu=>?_,fun u hu h1=>?_,fun u hu h1=>?_,fun x hx=>?_,?_,fun x hx u hu=>?_,?_,fun u hu=>?_,?_,fun _=>⟨hc1,?_,fun u hu=>?_,fun x hx=>?_⟩⟩
 · rw[Da];have:=h.lo u hu;split<;>omega
 · rw[Da];by_cases e:u=v
   · subst e;rw[if_pos rfl];have:=h.zero u hu;constructor
     · intro h1;omega
     · intro h1;have:=this.2 h1;omega
   · rw[if_neg e];exact h.zero u hu
 · rw[Da] at h1;by_cases e:u=v
   · subst e;exact ⟨w,hm,by rw[BC w Vn,Da,if_pos rfl];omega⟩
   · rw[if_neg e] at h1;obtain ⟨y,hy,VV⟩:=h.prev u hu h1;exact ⟨y,hy,by rw[BC y (by omega),Da,if_neg e];exact VV⟩
 · rw[Da,if_neg]
   · exact h.shut u hu h1
   · rintro rfl;rw[hs] at h1;cases h1
 · rcases List.mem_append.1 hx with hx | hx
   · have:=h.qin x hx;exact ⟨this.1,this.2.1,by rw[BC x this.2.2];exact this.2.2⟩
   · rw[List.mem_singleton] at hx;subst hx;exact ⟨by omega,by omega,by rw[Da,if_pos (by omega)];omega⟩
 · rw[List.pairwise_append];refine ⟨?_,by simp,?_⟩
   · refine h.sorted.imp_of_mem fun {a b} ha hb Vq=>?_;rw[BC a (h.qin a ha).2.2,BC b (h.qin b hb).2.2];exact Vq
   · intro a ha b hb;rw[List.mem_singleton] at hb;subst hb;rw[BC a (h.qin a ha).2.2,Da,if_pos (by omega)];have:=hc3 a.toNat (by have:=h.qin a ha;omega);exact this
 · rcases List.mem_append.1 hx with hx | hx
   · have h1:=h.qin x hx;rw[BC x h1.2.2,Da];have:=hc4 x hx;have:=h.top x hx u hu;split<;>omega
   · rw[List.mem_singleton] at hx;subst hx;rw[Da,Da,if_pos (show ((v:Nat):Int).toNat=v by omega)];have:=hc3 u hu;split<;>omega
 · intro y hy VV hy3 hy4 u hu hc hsu hmu;have hyv:y≠(v:Int):=fun e=>hy4 (by simp[e]);have Ass:y.toNat≠v:=by omega
   rw[Da,if_neg Ass] at hy3;have hyq:y∉q:=fun e=>hy4 (by simp[e]);rw[Da,Da,if_neg Ass];by_cases e:u=v
   · subst e;rw[if_pos rfl];by_cases e2:y=w
     · subst e2;omega
     · have:=h.done y hy VV hy3 hyq u hu (fun e3=>absurd e3 e2) hsu hmu;omega
   · rw[if_neg e];exact h.done y hy VV hy3 hyq u hu (fun e3=>by have:=hc e3;omega) hsu hmu
 · rw[Da];have h1:=h.bnd u hu;have h2:=h.bnd w.toNat (by omega);split<;>omega
 · have:=h.Ag2;simp only[List.length_append,List.length_singleton];omega
 · rw[BC w Vn];exact Vn
 · rw[BC w Vn,Da];have:=hc3 u hu;split<;>omega
 · rw[BC w Vn];rcases List.mem_append.1 hx with hx | hx
   · rw[BC x (h.qin x hx).2.2];exact hc4 x hx
   · rw[List.mem_singleton] at hx;subst hx;rw[Da,if_pos (by omega)];omega
theorem BF.end {g:List (List Int)} (hg:B8 g) {sh:List Bool} {goal:Nat} {d:List Int} {w:Int} {v:Nat} (h:BF g sh goal w v d []) (hv:w<0∨v=g.length):DS g sh goal d:=
 ⟨h.len,h.lo,h.zero,h.prev,fun u hu hs y hy h0=>by
   have hr:=Eo hg hu hy;exact h.done y (by omega) (by omega) h0 (by simp) u hu (fun e=>by omega) hs hy,h.shut⟩
theorem Aae {g:List (List Int)} (hg:B8 g) {u:Nat} (hu:u<g.length) {i j:Nat} (hi:i<j) (hj:j<(g.getD u []).length):(g.getD u []).getD i 0<(g.getD u []).getD j 0:=by
 induction j with
 | zero=>omega
 | succ j ih=>
   have h1:=hg.2 u hu (j+1) hj;unfold Hk at h1;have h2:=h1.2.2.2 (by omega);rw[show j+1 - 1=j by omega] at h2;by_cases e:i=j
   · subst e;exact h2
   · have:=ih (by omega) (by omega);omega
def BV:List BY→Int
 | []=>0
 | s::r=>s.AH+BV r
theorem Cx (l:List BY) (s:BY):BV (l++[s])=BV l+s.AH:=by
 induction l with
 | nil=>simp[BV]
 | cons x r ih=>simp only[List.cons_append,BV,ih];omega
def JQ (nb:Nat) (b:Int) (s:BY):Prop:=0≤s.Ft∧s.Ft<(nb:Int)∧0≤s.out∧s.out<(nb:Int)∧1≤s.AH∧s.AH≤4∧s.base=b
instance (nb:Nat) (b:Int) (s:BY):Decidable (JQ nb b s):=by unfold JQ;exact inferInstance
def Lt (x:Int) (s:BY):Bool:=s.A1&&(decide (s.base≤x)&&decide (x<s.base+s.AH))
def Ch (nb:Nat) (l:List BY):Prop:=∀i,i<l.length→JQ nb (nb+BV (l.take i)) (l.getD i AP)
instance (nb:Nat) (l:List BY):Decidable (Ch nb l):=by unfold Ch;exact inferInstance
def CJ (sp:List BY) (l:List Int):Prop:=∀i,i<l.length→sp.any (Lt (l.getD i 0))=true∧l.getD i 0∉l.take i
instance (sp:List BY) (l:List Int):Decidable (CJ sp l):=by unfold CJ;exact inferInstance
def validN (n:Nt):Prop:=FW n∧n.spurs.length≤6∧Hn n∧n.Al.length≤8∧JD n.cq n.ca n.cd n.cp∧Ch n.blocks.length n.spurs∧CJ n.spurs n.Al∧0<(n.spurs.filter BY.A1).length
instance (n:Nt):Decidable (validN n):=by unfold validN;exact inferInstance
theorem EZ (nb:Nat) (l:List BY) (k:Nat) (hk:k≤l.length) (h:∀j,j<k→JQ nb (nb+BV (l.take j)) (l.getD j AP)):0≤BV (l.take k)∧BV (l.take k)≤4*k:=by
 induction k with
 | zero=>simp[BV]
 | succ k ih=>
   have h1:=ih (by omega) (fun j hj=>h j (by omega));have h2:=h k (by omega);rw[AR l k AP (by omega),Cx];obtain ⟨_,_,_,_,h5,h6,_⟩:=h2;omega
def Dd (n:Nt):Prop:=n.blocks.length≤10000000∧OD n.next∧n.spurs.length≤10000000∧n.Al.length≤10000000
theorem Li (n:Nt) (Zq:Dd n):Aj Tryz.prog 46 [.agg n.cs] [] fun h r=>h=[]∧r= .p (.bool (decide (validN n))):=by
 have hB:=Aei n Zq.1 Zq.2.1;have hN:=Age n Zq.1 Zq.2.2.1;have hC:=S8 n.cq n.ca n.cd n.cp;obtain ⟨_,_,JT,D6⟩:=Zq;refine Ak Tryz.func46 rfl Aj4 (by simp[Tryz.f46]) ?_;simp only[go_sem,Nt.cs];refine Au ((hB)) ?_;rintro h' r ⟨rfl,rfl⟩;cases d1:decide (FW n)
 · simp only[go_sem,d1];rw[decide_eq_false (fun hp=>of_decide_eq_false d1 hp.1)]
 cases d2:decide (6<(n.spurs.length:Int));rotate_left
 · simp only[go_sem,Nt.cs,Ax,d1,d2];rw[decide_eq_false (fun hp=>by have:=hp.2.1;have:=of_decide_eq_true d2;omega)]
 simp only[go_sem,Nt.cs,Ax,d1,d2];refine Au ((hN)) ?_;rintro h' r ⟨rfl,rfl⟩;cases d3:decide (Hn n)
 · simp only[go_sem,d3];rw[decide_eq_false (fun hp=>of_decide_eq_false d3 hp.2.2.1)]
 cases d4:decide (8<(n.Al.length:Int));rotate_left
 · simp only[go_sem,Nt.cs,Ab,d3,d4];rw[decide_eq_false (fun hp=>by have:=hp.2.2.2.1;have:=of_decide_eq_true d4;omega)]
 simp only[go_sem,Nt.cs,Ab,d3,d4];refine Au ((hC)) ?_;rintro h' r ⟨rfl,rfl⟩;cases d5:decide (JD n.cq n.ca n.cd n.cp)
 · simp only[go_sem,d5];rw[decide_eq_false (fun hp=>of_decide_eq_false d5 hp.2.2.2.2.1)]
 simp only[go_sem,Nt.cs,Ay,d5];clear hB hN hC;have e1:=of_decide_eq_true d1;have e2:=of_decide_eq_false d2;have e3:=of_decide_eq_true d3;have e4:=of_decide_eq_false d4;have e5:=of_decide_eq_true d5;clear d1 d2 d3 d4 d5;have RI:n.blocks.length≤24:=e1.2.1;refine Ao (fun i:Nat=>⟨[(1,.ptr 1 0),(3,.p (.int .i64 ((n.blocks.length:Int)+BV (n.spurs.take i)))),(4,.p (.int .i64 (((n.spurs.take i).filter BY.A1).length:Nat))),(5,.p (.int .i64 (i:Nat)))],[(1,.box (Nt.cs n))],163⟩)
   (fun i=>i≤n.spurs.length∧∀j,j<i→JQ n.blocks.length (n.blocks.length+BV (n.spurs.take j)) (n.spurs.getD j AP)) (fun i=>n.spurs.length - i) 0 ⟨Nat.zero_le _,fun j hj=>absurd hj (Nat.not_lt_zero _)⟩ (Wk.forget (by simp[Le,AG,Av,get,Aa,Ac,Ad,D.ids,Ai,AO.ids,Ae,base,Nt.cs,BV])) ?_
 rintro i m ⟨hi,B4⟩ ih;simp only[go_sem,Nt.cs,Ax];refine AK (fun h2=>?_) (fun h2=>?_)
 · have AL:i<n.spurs.length:=by simp at h2;omega
   have hw:=As i (by omega);have hg:=CG n.spurs i AL;have Bm:(0:Int)≤(i:Int)∧(i:Int)<(n.spurs.length:Int):=by omega
   have W4:=EZ n.blocks.length n.spurs i hi B4;have HS:¬JQ n.blocks.length (n.blocks.length+BV (n.spurs.take i)) (n.spurs.getD i AP)→decide (validN n)=false:=fun h=>decide_eq_false (fun hp=>h (hp.2.2.2.2.2.1 i AL));have Ma:JQ n.blocks.length (n.blocks.length+BV (n.spurs.take i)) (n.spurs.getD i AP)→∀j,j<i+1→JQ n.blocks.length (n.blocks.length+BV (n.spurs.take j)) (n.spurs.getD j AP):=fun h j hj=>by
     rcases Nat.lt_succ_iff_lt_or_eq.1 hj with h3 | rfl
     · exact B4 j h3
     · exact h
   have On:=AR n.spurs i AP AL;have M6:((n.spurs.take i).filter BY.A1).length≤i:=by
     refine Nat.le_trans (List.length_filter_le _ _) ?_;simp;omega
   generalize n.spurs.getD i AP=s at*;obtain ⟨nm,dp,Ft,out,sl,bs⟩:=s;simp only[JQ] at HS Ma;generalize hS:BV (n.spurs.take i)=S at*;generalize hD:((n.spurs.take i).filter BY.A1).length=dn at*;cases c1:decide (Ft<0);rotate_left
   · simp only[go_sem,Nt.cs,Ax,Ay,Int.toNat_natCast,hg,Bm,c1];rw[HS (fun hp=>by have:=of_decide_eq_true c1;omega)]
   cases c2:decide ((n.blocks.length:Int)≤Ft);rotate_left
   · simp only[go_sem,Nt.cs,Ax,Ay,Int.toNat_natCast,hg,Bm,c1,c2];rw[HS (fun hp=>by have:=of_decide_eq_true c2;omega)]
   cases c3:decide (out<0);rotate_left
   · simp only[go_sem,Nt.cs,Ax,Ay,Int.toNat_natCast,hg,Bm,c1,c2,c3];rw[HS (fun hp=>by have:=of_decide_eq_true c3;omega)]
   cases c4:decide ((n.blocks.length:Int)≤out);rotate_left
   · simp only[go_sem,Nt.cs,Ax,Ay,Int.toNat_natCast,hg,Bm,c1,c2,c3,c4];rw[HS (fun hp=>by have:=of_decide_eq_true c4;omega)]
   cases c5:decide (sl<1);rotate_left
   · simp only[go_sem,Nt.cs,Ax,Ay,Int.toNat_natCast,hg,Bm,c1,c2,c3,c4,c5];rw[HS (fun hp=>by have:=of_decide_eq_true c5;omega)]
   cases c6:decide (4<sl);rotate_left
   · simp only[go_sem,Nt.cs,Ax,Ay,Int.toNat_natCast,hg,Bm,c1,c2,c3,c4,c5,c6];rw[HS (fun hp=>by have:=of_decide_eq_true c6;omega)]
   cases c7:decide (bs=(n.blocks.length:Int)+S)
   · simp only[go_sem,Nt.cs,Ax,Ay,Int.toNat_natCast,hg,Bm,c1,c2,c3,c4,c5,c6,c7];rw[HS (fun hp=>by have:=of_decide_eq_false c7;omega)]
   have hsl:1≤sl∧sl≤4:=by have:=of_decide_eq_false c5;have:=of_decide_eq_false c6;omega
   have VW:IntKind.i64.wrap ((n.blocks.length:Int)+S+sl)=(n.blocks.length:Int)+S+sl:=by rw[An]<;>omega
   have MC:=Ma (by have:=of_decide_eq_false c1;have:=of_decide_eq_false c2;have:=of_decide_eq_false c3;have:=of_decide_eq_false c4;have:=of_decide_eq_true c7;omega);have hwd:=As dn (by omega);cases dp
   · simp only[go_sem,Nt.cs,Ax,Ay,Int.toNat_natCast,hg,Bm,c1,c2,c3,c4,c5,c6,c7,VW,hw];refine ih (i+1) _ ⟨AL,MC⟩ (by omega) ?_
     (refine Wk.forget ?_;simp[Le,AG,Av,get,Aa,Ac,Ad,D.ids,Ai,AO.ids,Ae,base,Nt.cs,On,Cx,hS,hD,Int.add_assoc];done)
   · simp only[go_sem,Nt.cs,Ax,Ay,Int.toNat_natCast,hg,Bm,c1,c2,c3,c4,c5,c6,c7,VW,hw,hwd];refine ih (i+1) _ ⟨AL,MC⟩ (by omega) ?_
     (refine Wk.forget ?_;simp[Le,AG,Av,get,Aa,Ac,Ad,D.ids,Ai,AO.ids,Ae,base,Nt.cs,On,Cx,hS,hD,Int.add_assoc];done)
 have:i=n.spurs.length:=by simp at h2;omega
 subst this;have EI:Ch n.blocks.length n.spurs:=B4;rw[List.take_length];have Aqp:∀k,k<n.spurs.length→0≤(n.spurs.getD k AP).base∧(n.spurs.getD k AP).base≤1000∧1≤(n.spurs.getD k AP).AH∧(n.spurs.getD k AP).AH≤4:=fun k hk=>by
   have h3:=EI k hk;have h4:=EZ n.blocks.length n.spurs k (by omega) (fun j hj=>EI j (by omega));obtain ⟨_,_,_,_,h5,h6,h7⟩:=h3;omega
 clear ih B4;generalize hD:(n.spurs.filter BY.A1).length=dn;simp only[go_sem];refine Ao (fun i:Nat=>⟨[(1,.ptr 1 0),(4,.p (.int .i64 (dn:Nat))),(7,.p (.int .i64 (i:Nat)))],[(1,.box (Nt.cs n))],163⟩)
   (fun i=>i≤n.Al.length∧∀j,j<i→n.spurs.any (Lt (n.Al.getD j 0))=true∧n.Al.getD j 0∉n.Al.take j) (fun i=>n.Al.length - i) 0 ⟨Nat.zero_le _,fun j hj=>absurd hj (Nat.not_lt_zero _)⟩ (Wk.forget (by simp[Le,AG,Av,get,Aa,Ac,Ad,D.ids,Ai,AO.ids,Ae,base,Nt.cs])) ?_
 rintro i m2 ⟨C0,B4⟩ ih;simp only[go_sem,Nt.cs,Ab];refine AK (fun h3=>?_) (fun h3=>?_);rotate_left
 · simp only[go_sem];have:i=n.Al.length:=by simp at h3;omega
   subst this;have hv:decide (validN n)=decide (0<(dn:Int)):=by
     by_cases hdn:0<dn
     · rw[decide_eq_true (show validN n from ⟨e1,by omega,e3,by omega,e5,EI,B4,by rw[hD];exact hdn⟩),decide_eq_true (by omega)]
     · rw[decide_eq_false (fun hp:validN n=>hdn (by have:=hp.2.2.2.2.2.2.2;rw[hD] at this;exact this)),decide_eq_false (by omega)]
   rw[hv];try simp
 have AL:i<n.Al.length:=by simp at h3;omega
 have hw:=As i (by omega);have hgr:=AD n.Al i AL;have Bm:(0:Int)≤(i:Int)∧(i:Int)<(n.Al.length:Int):=by omega
 have HS:¬(n.spurs.any (Lt (n.Al.getD i 0))=true∧n.Al.getD i 0∉n.Al.take i)→decide (validN n)=false:=fun h=>decide_eq_false (fun hp=>h (hp.2.2.2.2.2.2.1 i AL));have Ma:(n.spurs.any (Lt (n.Al.getD i 0))=true∧n.Al.getD i 0∉n.Al.take i)→∀j,j<i+1→n.spurs.any (Lt (n.Al.getD j 0))=true∧n.Al.getD j 0∉n.Al.take j:=fun h j hj=>by
   rcases Nat.lt_succ_iff_lt_or_eq.1 hj with h3 | rfl
   · exact B4 j h3
   · exact h
 generalize n.Al.getD i 0=x at hgr HS Ma;simp only[go_sem];refine Ao (fun k:Nat=>⟨[(1,.ptr 1 0),(4,.p (.int .i64 (dn:Nat))),(7,.p (.int .i64 (i:Nat))),(8,.p (.bool ((n.spurs.take k).any (Lt x)))),(9,.p (.int .i64 (k:Nat)))],[(1,.box (Nt.cs n))],163⟩)
   (fun k=>k≤n.spurs.length) (fun k=>n.spurs.length - k) 0 (Nat.zero_le _) (Wk.forget (by simp[Le,AG,Av,get,Aa,Ac,Ad,D.ids,Ai,AO.ids,Ae,base,Nt.cs])) ?_
 rintro k m3 hk Fi;simp only[go_sem,Nt.cs,Ax];refine AK (fun h4=>?_) (fun h4=>?_)
 · have HK:k<n.spurs.length:=by simp at h4;omega
   have D5:=As k (by omega);have JV:=CG n.spurs k HK;have Ex:(0:Int)≤(k:Int)∧(k:Int)<(n.spurs.length:Int):=by omega
   have hb:=Aqp k HK;have On:=AR n.spurs k AP HK;generalize n.spurs.getD k AP=s at*;obtain ⟨nm,dp,Ft,out,sl,bs⟩:=s;simp only at hb;have VW:IntKind.i64.wrap (bs+sl)=bs+sl:=by rw[An]<;>omega
   have han:(n.spurs.take (k+1)).any (Lt x)=((n.spurs.take k).any (Lt x)||(dp&&(decide (bs≤x)&&decide (x<bs+sl)))):=by
     rw[On,List.any_append];simp[Lt]
   generalize (n.spurs.take k).any (Lt x)=ok at*;simp only[go_sem,Nt.cs,Ax,Int.toNat_natCast,JV,Ex];refine AY mixed (p:=[(0,0),(1,0),(2,0),(3,0),(4,0),(5,0),(6,0),(7,0),(8,0),(9,0),(10,0),(11,0),(12,0),(13,0),(14,0),(15,0),(16,0),(17,0),(18,0),(19,0),(20,0),(21,0),(22,0),(23,0),(24,0),(25,0),(26,0),(27,0),(28,0)]) (by kernel_rfl) (by simp[Av,get]) ?_;cases ok;rotate_left
   · simp only[go_sem,Nt.cs,D5];refine Fi (k+1) _ HK (by omega) ?_
     (refine Wk.forget ?_;simp[Le,AG,Av,get,Aa,Ac,Ad,D.ids,Ai,AO.ids,Ae,base,Nt.cs,han];done)
   cases dp
   · simp only[go_sem,Nt.cs,D5];refine Fi (k+1) _ HK (by omega) ?_
     (refine Wk.forget ?_;simp[Le,AG,Av,get,Aa,Ac,Ad,D.ids,Ai,AO.ids,Ae,base,Nt.cs,han];done)
   cases c1:decide (bs≤x)
   · simp only[go_sem,Nt.cs,Ab,Int.toNat_natCast,hgr,Bm,c1,D5];refine Fi (k+1) _ HK (by omega) ?_
     (refine Wk.forget ?_;simp[Le,AG,Av,get,Aa,Ac,Ad,D.ids,Ai,AO.ids,Ae,base,Nt.cs,han,c1];done)
   cases c2:decide (x<bs+sl)
   · simp only[go_sem,Nt.cs,Ab,Int.toNat_natCast,hgr,Bm,c1,VW,c2,D5];refine Fi (k+1) _ HK (by omega) ?_
     (refine Wk.forget ?_;simp[Le,AG,Av,get,Aa,Ac,Ad,D.ids,Ai,AO.ids,Ae,base,Nt.cs,han,c1,c2];done)
   · simp only[go_sem,Nt.cs,Ab,Int.toNat_natCast,hgr,Bm,c1,VW,c2,D5];refine Fi (k+1) _ HK (by omega) ?_
     (refine Wk.forget ?_;simp[Le,AG,Av,get,Aa,Ac,Ad,D.ids,Ai,AO.ids,Ae,base,Nt.cs,han,c1,c2];done)
 have:k=n.spurs.length:=by simp at h4;omega
 subst this;rw[List.take_length];simp only[go_sem];refine AY mixed (p:=[(0,0),(1,0),(2,0),(3,0),(4,0),(5,0),(6,0),(7,0),(8,0),(9,0),(10,0),(11,0),(12,2),(13,0)]) (by kernel_rfl) (by simp[Av,get]) ?_;cases ho:n.spurs.any (Lt x)
 · simp only[go_sem,ho];rw[HS (fun hp=>by rw[ho] at hp;cases hp.1)]
 simp only[go_sem,Nt.cs,Ab,Int.toNat_natCast,hgr,Bm,ho,JB];refine ⟨⟨by omega,by simp[I1,Ag]⟩,?_⟩;refine Bu ((KT (n.Al.take i) x (by simp;omega))) ?_;rintro h' r ⟨rfl,rfl⟩;cases hh:decide (x∈n.Al.take i)
 · simp only[go_sem,hh,hw];refine ih (i+1) _ ⟨AL,Ma ⟨ho,of_decide_eq_false hh⟩⟩ (by omega) ?_
   (refine Wk.forget ?_;simp[Le,AG,Av,get,Aa,Ac,Ad,D.ids,Ai,AO.ids,Ae,base,Nt.cs];done)
 · simp only[go_sem,hh];rw[HS (fun hp=>hp.2 (of_decide_eq_true hh))]
theorem any_take_succ {α:Type} (p:α→Bool) (l:List α) (k:Nat) (x:α) (h:k<l.length):(l.take (k+1)).any p=((l.take k).any p||p (l.getD k x)):=by
 rw[AR l k x h,List.any_append];simp
theorem IV (l:List Int) (i:Nat):((Ag l)[i]?.getD []).tail=[]:=by
 unfold Ag;rw[List.getElem?_map];cases l[i]?<;>rfl
theorem Qz (g:List (List Int)) (sh:List Bool) (goal:Nat) (hg:B8 g) (FJ:sh.length=g.length) (Cw:goal<g.length):
   Aj Tryz.prog 123 [.p (.sl (AM g)),.p (.sl (Bf sh)),.p (.int .i64 (goal:Nat))] [] fun h r=>h=[]∧r= .p (.sl (Ag (BG g sh goal))):=by
 have hlen:=hg.1;refine Ak Tryz.func123 rfl Ad3 (by simp[Tryz.f123]) ?_;simp only[go_sem,Aw];refine ⟨by omega,?_⟩;refine Ao (fun q:Nat×List Int=>⟨[(0,.p (.sl (AM g))),(1,.p (.sl (Bf sh))),(2,.p (.int .i64 (goal:Nat))),(7,.ref 14 0 g.length g.length),(8,.p (.int .i64 (q.1:Nat)))],[(14,.arr 3 1 (Ag q.2))],82⟩)
   (fun q=>q.1≤g.length∧q.2.length=g.length∧∀j,j<q.1→q.2.getD j 0=-1) (fun q=>g.length - q.1) (0,List.replicate g.length 0) ⟨Nat.zero_le _,by simp,fun j hj=>absurd hj (Nat.not_lt_zero _)⟩ (Wk.forget (by simp[Le,AG,Av,get,Aa,Ac,Ad,D.ids,Ai,AO.ids,Ae,base,Ag])) ?_
 rintro ⟨i,o⟩ m ⟨hi,ho,hm⟩ ih;simp only at hi ho hm;simp only[go_sem,Aw];refine AK (fun h2=>?_) (fun h2=>?_)
 · have AL:i<g.length:=by simp at h2;omega
   have hw:=As i (by omega);have Bm:(0:Int)≤(i:Int)∧(i:Int)<(g.length:Int):=by omega
   simp only[go_sem,Ab,ho,Int.toNat_natCast,Bm,hw];refine ih (i+1,o.set i (-1)) _ ⟨AL,by simpa using ho,fun j hj=>?_⟩ (by simp only;omega) ?_
   · rw[Cm];by_cases e:i=j
     · rw[if_pos ⟨e,by omega⟩]
     · rw[if_neg (fun h=>e h.1)];exact hm j (by omega)
   · (refine Wk.forget ?_;simp[Le,AG,Av,get,Aa,Ac,Ad,D.ids,Ai,AO.ids,Ae,base,Bt,IV];done)
 have TW:i=g.length:=by simp at h2;omega
 subst TW;have hoe:o=List.replicate g.length (-1):=by
   refine List.ext_getElem (by simp[ho]) fun j h3 h4=>?_;have:=hm j (by omega);rw[getD_eq h3] at this
   simpa using this
 subst hoe;clear ih hm;have Ax5:=Eg sh goal (by omega);have hg0:(0:Int)≤(goal:Int)∧(goal:Int)<(g.length:Int):=by omega
 simp only[go_sem,Ef,FJ,Int.toNat_natCast,Ax5,hg0];cases hs:sh.getD goal false;rotate_left
 · simp only[go_sem,hs];refine Ah ?_;simp only[go_sem];unfold BG;rw[if_pos hs];simp[Ag]
 simp only[go_sem,hs,Ab,List.length_replicate,Int.toNat_natCast,hg0];have hdv:BG g sh goal=H3 g sh (g.length - 1) 1 ((List.replicate g.length (-1)).set goal 0):=by unfold BG;rw[if_neg (by rw[hs];simp)]
 refine Ao (fun q:Nat×List Int=>⟨[(0,.p (.sl (AM g))),(1,.p (.sl (Bf sh))),(7,.ref 14 0 g.length g.length),(9,.p (.int .i64 (q.1:Nat)))],[(14,.arr 3 1 (Ag q.2))],82⟩)
   (fun q=>1≤q.1∧q.1≤24∧q.2.length=g.length∧H3 g sh (g.length - q.1) q.1 q.2=BG g sh goal) (fun q=>g.length - q.1) (1,(List.replicate g.length (-1)).set goal 0) ⟨Nat.le_refl _,by omega,by simp,hdv.symm⟩ (Wk.forget (by simp[Le,AG,Av,get,Aa,Ac,Ad,D.ids,Ai,AO.ids,Ae,base,Bt,IV])) ?_
 rintro ⟨d,o⟩ m2 ⟨SG,Axd,ho,he⟩ ih;simp only at SG Axd ho he;simp only[go_sem,Aw];refine AK (fun h3=>?_) (fun h3=>?_);rotate_left
 · simp only[go_sem];refine Ah ?_;simp only[go_sem];have:g.length - d=0:=by simp at h3;omega
   rw[this] at he;simp only[H3] at he;rw[←he,List.take_of_length_le (by rw[Ab];omega)];try simp[Ab,ho]
 have hdt:d<g.length:=by simp at h3;omega
 have hwd:=As d (by omega);have hwp:IntKind.i64.wrap ((d:Int) - 1)=(d:Int) - 1:=by rw[An]<;>omega
 rw[show g.length - d=(g.length - (d+1))+1 by omega] at he;simp only[H3] at he;generalize hT:Hb g sh d g.length 0 o=T at he;simp only[go_sem];refine Ao (fun q:Nat×List Int=>⟨[(0,.p (.sl (AM g))),(1,.p (.sl (Bf sh))),(7,.ref 14 0 g.length g.length),(9,.p (.int .i64 (d:Nat))),(10,.p (.int .i64 (q.1:Nat)))],[(14,.arr 3 1 (Ag q.2))],82⟩)
   (fun q=>q.1≤g.length∧q.2.length=g.length∧Hb g sh d (g.length - q.1) q.1 q.2=T) (fun q=>g.length - q.1) (0,o) ⟨Nat.zero_le _,ho,hT⟩ (Wk.forget (by simp[Le,AG,Av,get,Aa,Ac,Ad,D.ids,Ai,AO.ids,Ae,base])) ?_
 rintro ⟨v,o1⟩ m3 ⟨hv,Ys,he1⟩ ih1;simp only at hv Ys he1;simp only[go_sem,Aw];refine AK (fun h4=>?_) (fun h4=>?_);rotate_left
 · have:g.length - v=0:=by simp at h4;omega
   rw[this] at he1;simp only[Hb] at he1;simp only[go_sem,hwd];refine ih (d+1,o1) _ ⟨by omega,by omega,Ys,by rw[he1];exact he⟩ (by simp only;omega) ?_
   (refine Wk.forget ?_;simp[Le,AG,Av,get,Aa,Ac,Ad,D.ids,Ai,AO.ids,Ae,base];done)
 have Vf:v<g.length:=by simp at h4;omega
 have Ve:=As v (by omega);rw[show g.length - v=(g.length - (v+1))+1 by omega] at he1;simp only[Hb] at he1;have Oq:=Eg sh v (by omega);have hgo:=AD o1 v (by omega);have Qv:(0:Int)≤(v:Int)∧(v:Int)<(g.length:Int):=by omega
 cases c1:sh.getD v false;rotate_left
 · simp only[go_sem,Ef,Ab,FJ,Ys,Int.toNat_natCast,Oq,hgo,Qv,c1,Ve];refine ih1 (v+1,o1) _ ⟨Vf,Ys,?_⟩ (by simp only;omega) ?_
   · rw[←he1];unfold Iu;rw[if_pos (.inl c1)]
   · (refine Wk.forget ?_;simp[Le,AG,Av,get,Aa,Ac,Ad,D.ids,Ai,AO.ids,Ae,base];done)
 cases c2:decide (0≤o1.getD v 0);rotate_left
 · simp only[go_sem,Ef,Ab,FJ,Ys,Int.toNat_natCast,Oq,hgo,Qv,c1,c2,Ve];refine ih1 (v+1,o1) _ ⟨Vf,Ys,?_⟩ (by simp only;omega) ?_
   · rw[←he1];unfold Iu;rw[if_pos (.inr (of_decide_eq_true c2))]
   · (refine Wk.forget ?_;simp[Le,AG,Av,get,Aa,Ac,Ad,D.ids,Ai,AO.ids,Ae,base];done)
 simp only[go_sem,Ef,Ab,FJ,Ys,Int.toNat_natCast,Oq,hgo,Qv,c1,c2];have Jp:Iu g sh d v o1=if (g.getD v []).any (fun w=>decide (o1.getD w.toNat 0=(d:Int) - 1))=true then o1.set v d else o1:=by
   unfold Iu;rw[if_neg (by
     rintro (h | h)
     · rw[c1] at h;cases h
     · exact of_decide_eq_false c2 h)]
 rw[Jp] at he1;have Bj:∀k,k<(g.getD v []).length→∃w:Nat,(g.getD v []).getD k 0=(w:Int)∧w<g.length∧w≠v:=fun k hk=>QX hg Vf hk;have Yo:(g.getD v []).length≤24:=by
   have hP:=hg.2 v Vf;have key:∀k,k≤(g.getD v []).length→∀j,j<k→(j:Int)≤(g.getD v []).getD j 0:=by
     intro k
     induction k with
     | zero=>intro _ j hj;omega
     | succ k ihk=>
       intro hk j hj;rcases Nat.lt_succ_iff_lt_or_eq.1 hj with h5 | rfl
       · exact ihk (by omega) j h5
       · have h6:=hP j (by omega);unfold Hk at h6;rcases j with _ | j
         · exact h6.1
         · have h7:=ihk (by omega) j (by omega);have h8:=h6.2.2.2 (by omega);rw[show j+1 - 1=j from rfl] at h8;omega
   rcases Nat.eq_zero_or_pos (g.getD v []).length with h5 | h5
   · omega
   · have h6:=key _ (Nat.le_refl _) ((g.getD v []).length - 1) (by omega);obtain ⟨w,h7,h8,_⟩:=Bj ((g.getD v []).length - 1) (by omega);omega
 have hgv:=DH g v Vf;generalize g.getD v []=row at*;clear Jp c1 c2 Oq hgo;refine Ao (fun k:Nat=>⟨[(0,.p (.sl (AM g))),(1,.p (.sl (Bf sh))),(7,.ref 14 0 g.length g.length),(9,.p (.int .i64 (d:Nat))),(10,.p (.int .i64 (v:Nat))),(11,.p (.int .i64 (k:Nat)))],
     [(14,.arr 3 1 (Ag (if (row.take k).any (fun w=>decide (o1.getD w.toNat 0=(d:Int) - 1))=true then o1.set v d else o1)))],82⟩)
   (fun k=>k≤row.length) (fun k=>row.length - k) 0 (Nat.zero_le _) (Wk.forget (by simp[Le,AG,Av,get,Aa,Ac,Ad,D.ids,Ai,AO.ids,Ae,base])) ?_
 rintro k m4 hk Fi;simp only[go_sem,Aw,Ab,Int.toNat_natCast,hgv,Qv];refine AK (fun h5=>?_) (fun h5=>?_);rotate_left
 · have:k=row.length:=by simp at h5;omega
   subst this;rw[List.take_length];clear Fi;generalize row.any (fun w=>decide (o1.getD w.toNat 0=(d:Int) - 1))=an at*;simp only[go_sem,Ve];refine ih1 (v+1,if an=true then o1.set v d else o1) _ ⟨Vf,?_,he1⟩ (by simp only;omega) ?_
   · simp only;split<;>simp[Ys]
   · (refine Wk.forget ?_;simp[Le,AG,Av,get,Aa,Ac,Ad,D.ids,Ai,AO.ids,Ae,base];done)
 have HK:k<row.length:=by simp at h5;omega
 have D5:=As k (by omega);obtain ⟨w,hw,hwl,Awf⟩:=Bj k HK;have JV:=AD row k HK;rw[hw] at JV;have Ex:(0:Int)≤(k:Int)∧(k:Int)<(row.length:Int):=by omega
 have Ol:(0:Int)≤(w:Int)∧(w:Int)<(g.length:Int):=by omega
 have On:=any_take_succ (fun w=>decide (o1.getD w.toNat 0=(d:Int) - 1)) row k 0 HK;rw[hw] at On;simp only[Int.toNat_natCast] at On;generalize (row.take k).any (fun w=>decide (o1.getD w.toNat 0=(d:Int) - 1))=an at*;have TT:(if an=true then o1.set v d else o1).length=g.length:=by split<;>simp[Ys]
 have hgw:=AD (if an=true then o1.set v d else o1) w (by omega);have Ax4:(if an=true then o1.set v d else o1).getD w 0=o1.getD w 0:=by
   split
   · rw[Cm,if_neg (fun h=>Awf h.1.symm)]
   · rfl
 rw[Ax4] at hgw;have Da:(if an=true then o1.set v d else o1).set v d=o1.set v d:=by split<;>simp
 generalize hq:(if an=true then o1.set v d else o1)=q at*;simp only[go_sem,Aw,Ab,Int.toNat_natCast,hgv,Qv,JV,Ex,TT,hgw,Ol,hwp];cases c3:decide (o1.getD w 0=(d:Int) - 1)
 · simp only[go_sem,c3,D5];refine Fi (k+1) _ HK (by omega) ?_;rw[On,c3,Bool.or_false,hq]
   (refine Wk.forget ?_;simp[Le,AG,Av,get,Aa,Ac,Ad,D.ids,Ai,AO.ids,Ae,base];done)
 · simp only[go_sem,c3,D5,Ab,TT,Int.toNat_natCast,Qv];refine Fi (k+1) _ HK (by omega) ?_;rw[On,c3,Bool.or_true,if_pos rfl,←Da,Bt]
   (refine Wk.forget ?_;simp[Le,AG,Av,get,Aa,Ac,Ad,D.ids,Ai,AO.ids,Ae,base,IV];done)
theorem Us (g:List (List Int)) (sh:List Bool) (hg:OD g):Aj Tryz.prog 68 [.p (.sl (AM g)),.p (.sl (Bf sh))] [] fun h r=>h=[]∧r= .p (.int .i64 (if B8 g then (if sh.length=g.length then 0 else 19) else 20)):=by
 refine Ak Tryz.func68 rfl Aim (by simp[Tryz.f68]) ?_;simp only[go_sem];refine Au ((y9 g hg)) ?_;rintro h' r ⟨rfl,rfl⟩;cases c1:decide (B8 g)
 · simp only[go_sem,c1];rw[if_neg (of_decide_eq_false c1)]
 simp only[go_sem,c1,Ef,Aw];rw[if_pos (of_decide_eq_true c1)];cases c2:decide ((sh.length:Int)=(g.length:Int))
 · simp only[go_sem,c2];rw[if_neg (fun h=>of_decide_eq_false c2 (by omega))]
 · simp only[go_sem,c2];rw[if_pos (by have:=of_decide_eq_true c2;omega)]
def Zs (g:List (List Int)) (D:List Int) (v:Nat):Int:=if 0<D.getD v 0 then ((g.getD v []).find? (fun w=>decide (D.getD w.toNat 0=D.getD v 0 - 1))).getD (-1) else -1
theorem G6 {g:List (List Int)} (hg:B8 g) (sh:List Bool) {goal:Nat} (Cw:goal<g.length) {v:Nat} (hv:v<g.length):-1≤(BG g sh goal).getD v 0∧(BG g sh goal).getD v 0≤24:=by
 rcases (XE hg sh goal Cw).2 v hv with h | h | h<;>omega
theorem GP {g:List (List Int)} (hg:B8 g) {u:Nat} (hu:u<g.length):(g.getD u []).length≤24:=by
 have hP:=hg.2 u hu;have key:∀k,k≤(g.getD u []).length→∀j,j<k→(j:Int)≤(g.getD u []).getD j 0:=by
   intro k
   induction k with
   | zero=>intro _ j hj;omega
   | succ k ihk=>
     intro hk j hj;rcases Nat.lt_succ_iff_lt_or_eq.1 hj with h5 | rfl
     · exact ihk (by omega) j h5
     · have h6:=hP j (by omega);unfold Hk at h6;rcases j with _ | j
       · exact h6.1
       · have h7:=ihk (by omega) j (by omega);have h8:=h6.2.2.2 (by omega);rw[show j+1 - 1=j from rfl] at h8;omega
 have hl:=hg.1;rcases Nat.eq_zero_or_pos (g.getD u []).length with h5 | h5
 · omega
 · have h6:=key _ (Nat.le_refl _) ((g.getD u []).length - 1) (by omega);obtain ⟨w,h7,h8,_⟩:=QX hg hu (k:=(g.getD u []).length - 1) (by omega);omega
def jm1 (j:Nat):Int:=(j:Int) - 1
theorem Aml (g:List (List Int)) (sh:List Bool) (goal:Nat) (hg:B8 g) (FJ:sh.length=g.length) (Cw:goal<g.length):
   Aj Tryz.prog 156 [.p (.sl (AM g)),.p (.sl (Bf sh)),.p (.int .i64 (goal:Nat))] [] fun h r=>h=[]∧∃o:List Int,r= .p (.sl (Ag o))∧o.length=g.length∧∀v,v<g.length→o.getD v 0=Zs g (BG g sh goal) v:=by
 have hlen:=hg.1;have hDl:=IY g sh goal;have hDr:∀v,v<g.length→-1≤(BG g sh goal).getD v 0∧(BG g sh goal).getD v 0≤24:=fun v hv=>G6 hg sh Cw hv;have hd:=Qz g sh goal hg FJ Cw;refine Ak Tryz.func156 rfl Ub (by simp[Tryz.f156]) ?_;simp only[go_sem];refine Au ((hd)) ?_;rintro h' r ⟨rfl,rfl⟩;generalize BG g sh goal=ds at*;clear hd;simp only[go_sem,Aw];refine ⟨by omega,?_⟩;refine Ao (fun q:Nat×List Int=>⟨[(0,.p (.sl (AM g))),(7,.p (.sl (Ag ds))),(8,.ref 18 0 g.length g.length),(9,.p (.int .i64 (q.1:Nat)))],[(18,.arr 3 1 (Ag q.2))],67⟩)
   (fun q=>q.1≤g.length∧q.2.length=g.length∧∀v,v<q.1→q.2.getD v 0=Zs g ds v) (fun q=>g.length - q.1) (0,List.replicate g.length 0) ⟨Nat.zero_le _,by simp,fun j hj=>absurd hj (Nat.not_lt_zero _)⟩ (Wk.forget (by simp[Le,AG,Av,get,Aa,Ac,Ad,D.ids,Ai,AO.ids,Ae,base,Ag])) ?_
 rintro ⟨v,o⟩ m ⟨hv,ho,B4⟩ ih;simp only at hv ho B4;simp only[go_sem,Aw];refine AK (fun h2=>?_) (fun h2=>?_);rotate_left
 · simp only[go_sem];refine Ah ?_;simp only[go_sem];have:v=g.length:=by simp at h2;omega
   subst this;refine ⟨by rw[Ab];omega,o,?_,ho,B4⟩;rw[List.take_of_length_le (by rw[Ab];omega)]
 have Vf:v<g.length:=by simp at h2;omega
 have Ve:=As v (by omega);have Qv:(0:Int)≤(v:Int)∧(v:Int)<(g.length:Int):=by omega
 have hgv:=DH g v Vf;have Bj:∀k,k<(g.getD v []).length→∃w:Nat,(g.getD v []).getD k 0=(w:Int)∧w<g.length∧w≠v:=fun k hk=>QX hg Vf hk;have Yo:=GP hg Vf;have hDv:=AD ds v (by omega);have hDvr:=hDr v Vf;have hhv:Zs g ds v=if 0<ds.getD v 0 then ((g.getD v []).find? (fun w=>decide (ds.getD w.toNat 0=ds.getD v 0 - 1))).getD (-1) else -1:=rfl
 generalize g.getD v []=row at*;generalize hdv:ds.getD v 0=dv at*;have hwl:IntKind.i64.wrap ((row.length:Int) - 1)=jm1 row.length:=by unfold jm1;rw[An]<;>omega
 simp only[go_sem,Aw,Ab,ho,Int.toNat_natCast,Qv,hgv,hwl];refine Ao (fun j:Nat=>⟨[(0,.p (.sl (AM g))),(7,.p (.sl (Ag ds))),(8,.ref 18 0 g.length g.length),(9,.p (.int .i64 (v:Nat))),(10,.p (.int .i64 (jm1 j)))],
     [(18,.arr 3 1 (Ag (o.set v (((row.drop j).find? (fun w=>decide (ds.getD w.toNat 0=dv - 1))).getD (-1)))))],67⟩)
   (fun j=>j≤row.length∧(j=row.length∨0<dv)) (fun j=>j) row.length ⟨Nat.le_refl _,.inl rfl⟩ (Wk.forget (by simp[Le,AG,Av,get,Aa,Ac,Ad,D.ids,Ai,AO.ids,Ae,base,Bt,IV,List.drop_length])) ?_
 rintro j m2 ⟨hj,hjd⟩ Fi;have Da:∀x,∀u,u<v+1→x=Zs g ds v→(o.set v x).getD u 0=Zs g ds u:=fun x u hu hx=>by
   rw[Cm];by_cases e:v=u
   · subst e;rw[if_pos ⟨rfl,by omega⟩];exact hx
   · rw[if_neg (fun h=>e h.1)];exact B4 u (by omega)
 rcases j with _ | j
 · have hz:¬(0:Int)≤jm1 0:=by unfold jm1;omega
   simp only[go_sem,hz,Ve];refine ih (v+1,o.set v ((row.find? (fun w=>decide (ds.getD w.toNat 0=dv - 1))).getD (-1))) _ ⟨Vf,by simp[ho],fun u hu=>Da _ u hu ?_⟩ (by simp only;omega) ?_
   · rw[hhv];rcases hjd with h3 | h3
     · have:row=[]:=List.length_eq_zero_iff.1 h3.symm;subst this;simp
     · rw[if_pos h3]
   · (refine Wk.forget ?_;simp[Le,AG,Av,get,Aa,Ac,Ad,D.ids,Ai,AO.ids,Ae,base];done)
 · have hj1:jm1 (j+1)=(j:Int):=by unfold jm1;omega
   have hjn:(0:Int)≤(j:Int):=by omega
   have TQ:IntKind.i64.wrap ((j:Int) - 1)=jm1 j:=by unfold jm1;rw[An]<;>omega
   cases c1:decide (0<dv)
   · have hjl:j+1=row.length:=by
       rcases hjd with h3 | h3
       · exact h3
       · exact absurd h3 (of_decide_eq_false c1)
     have NR:row.drop (j+1)=[]:=by rw[hjl];simp
     rw[NR];simp only[go_sem,hj1,hjn,Ab,hDl,Int.toNat_natCast,Qv,hDv,c1,Ve];refine ih (v+1,o.set v (-1)) _ ⟨Vf,by simp[ho],fun u hu=>Da _ u hu ?_⟩ (by simp only;omega) ?_
     · rw[hhv,if_neg (of_decide_eq_false c1)]
     · (refine Wk.forget ?_;simp[Le,AG,Av,get,Aa,Ac,Ad,D.ids,Ai,AO.ids,Ae,base];done)
   have Oo:j<row.length:=by omega
   obtain ⟨w,hw,hwl2,hwne⟩:=Bj j Oo;have hgj:=AD row j Oo;rw[hw] at hgj;have TV:(0:Int)≤(j:Int)∧(j:Int)<(row.length:Int):=by omega
   have Ol:(0:Int)≤(w:Int)∧(w:Int)<(g.length:Int):=by omega
   have hDw:=AD ds w (by omega);have hwd:IntKind.i64.wrap (dv - 1)=dv - 1:=by rw[An]<;>omega
   have S1:row.drop j=(w:Int)::row.drop (j+1):=by rw[Bn row j 0 Oo,hw]
   simp only[go_sem,hj1,hjn,Ab,Aw,hDl,Int.toNat_natCast,Qv,hDv,c1,hgv,hgj,TV];refine AY mixed (p:=[(0,0),(1,0),(2,0),(3,0),(4,0),(5,0),(6,0),(7,0),(8,0),(9,0)]) (by kernel_rfl) (by simp[Av,get]) ?_;simp only[go_sem,Ab,hDl,Int.toNat_natCast,Qv,hDv,hDw,Ol,hwd];cases c2:decide (ds.getD w 0=dv - 1)
   · simp only[go_sem,c2,TQ];refine Fi j _ ⟨by omega,.inr (of_decide_eq_true c1)⟩ (by omega) ?_;rw[S1,List.find?_cons_of_neg (by simp only[Int.toNat_natCast];simpa using of_decide_eq_false c2)]
     (refine Wk.forget ?_;simp[Le,AG,Av,get,Aa,Ac,Ad,D.ids,Ai,AO.ids,Ae,base];done)
   · simp only[go_sem,c2,TQ,Ab,List.length_set,ho,Int.toNat_natCast,Qv];refine Fi j _ ⟨by omega,.inr (of_decide_eq_true c1)⟩ (by omega) ?_;rw[S1,List.find?_cons_of_pos (by simp only[Int.toNat_natCast];exact c2)];generalize ((row.drop (j+1)).find? (fun w=>decide (ds.getD w.toNat 0=dv - 1))).getD (-1)=y0;rw[show o.set v ((some (w:Int)).getD (-1))=(o.set v y0).set v (w:Int) by simp,Bt (o.set v y0)]
     (refine Wk.forget ?_;simp[Le,AG,Av,get,Aa,Ac,Ad,D.ids,Ai,AO.ids,Ae,base,IV];done)
theorem V4 (l:List Int):I1 1 (Ag l):=by
 intro e he;unfold Ag at he;obtain ⟨x,_,rfl⟩:=List.mem_map.1 he;rfl
theorem Ahd {g:List (List Int)} (hg:B8 g) (sh:List Bool) {goal cur:Nat} (Cw:goal<g.length) (hc:cur<g.length) (BC:cur≠goal) (h0:0≤(BG g sh goal).getD cur 0):
   ∃w:Nat,Zs g (BG g sh goal) cur=(w:Int)∧w<g.length∧(BG g sh goal).getD w 0=(BG g sh goal).getD cur 0 - 1∧1≤(BG g sh goal).getD cur 0:=by
 have hdp:=(XE hg sh goal Cw).2 cur hc;generalize BG g sh goal=ds at*;rcases hdp with h | h | ⟨h1,h2,w,h3,h4⟩
 · omega
 · exact absurd h.2 BC
 · unfold Zs;rw[if_pos (by omega)];have hs:((g.getD cur []).find? (fun w=>decide (ds.getD w.toNat 0=ds.getD cur 0 - 1))).isSome:=by
     rw[List.find?_isSome];exact ⟨w,h3,decide_eq_true h4⟩
   obtain ⟨u,hu⟩:=Option.isSome_iff_exists.1 hs;have hm:=List.mem_of_find?_eq_some hu;have hp:ds.getD u.toNat 0=ds.getD cur 0 - 1:=by have:=List.find?_some hu;simpa using this
   obtain ⟨k,hk,hku⟩:=List.mem_iff_getElem.1 hm;obtain ⟨x,Gz,Jo,_⟩:=QX hg hc hk;rw[getD_eq hk,hku] at Gz;rw[hu];subst Gz;exact ⟨x,rfl,Jo,by simpa using hp,h1⟩
theorem Ai3 (g:List (List Int)) (sh:List Bool) (src goal:Nat) (hg:B8 g) (FJ:sh.length=g.length) (Cw:goal<g.length) (Abt:src<g.length) (h0:0≤(BG g sh goal).getD src 0):
   Aj Tryz.prog 124 [.p (.sl (AM g)),.p (.sl (Bf sh)),.p (.int .i64 (src:Nat)),.p (.int .i64 (goal:Nat))] [] fun h r=>h=[]∧∃o:List Int,r= .p (.sl (Ag o))∧1≤o.length∧o.length≤26:=by
 have hDl:=IY g sh goal;have W7:∀cur,cur<g.length→cur≠goal→0≤(BG g sh goal).getD cur 0→_:=fun cur hc BC h=>Ahd hg sh Cw hc BC h;have W4:=(G6 hg sh Cw Abt).2;have hd:=Qz g sh goal hg FJ Cw;have hh:=Aml g sh goal hg FJ Cw;refine Ak Tryz.func124 rfl Ud (by simp[Tryz.f124]) ?_;simp only[go_sem];refine Au ((hd)) ?_;rintro h' r ⟨rfl,rfl⟩;generalize BG g sh goal=ds at*;clear hd;have hDv:=AD ds src (by omega);have Yn:(0:Int)≤(src:Int)∧(src:Int)<(g.length:Int):=by omega
 have Amm:¬ds.getD src 0<0:=by omega
 simp only[go_sem,Ab,hDl,Int.toNat_natCast,hDv,Yn,Amm];refine Au hh ?_;rintro h' r ⟨rfl,hp,rfl,hpl,hpv⟩;simp only[go_sem];refine Ao (fun q:Nat×List Int=>⟨[(2,.p (.int .i64 (q.1:Nat))),(3,.p (.int .i64 (goal:Nat))),(9,.p (.sl (Ag hp))),(10,.ref 24 0 q.2.length q.2.length)],[(24,.arr 3 1 (Ag q.2))],37⟩)
   (fun q=>q.1<g.length∧0≤ds.getD q.1 0∧1≤q.2.length∧(q.2.length:Int)+ds.getD q.1 0≤25) (fun q=>(ds.getD q.1 0).toNat) (src,[(src:Int)]) ⟨Abt,h0,Nat.le_refl _,by show ((1:Nat):Int)+ds.getD src 0≤25;omega⟩ (Wk.forget (by simp[Le,AG,Av,get,Aa,Ac,Ad,D.ids,Ai,AO.ids,Ae,base,Ag])) ?_
 rintro ⟨cur,o⟩ m ⟨hc,SH,Ys,SF⟩ ih;simp only at hc SH Ys SF;simp only[go_sem];cases c1:decide ((cur:Int)=(goal:Int))
 · have BC:cur≠goal:=fun e=>of_decide_eq_false c1 (by rw[e]);obtain ⟨w,NL,TS,hw3,Zn⟩:=W7 cur hc BC SH;have hgc:=AD hp cur (by omega);rw[hpv cur hc,NL] at hgc;have Vn:(0:Int)≤(cur:Int)∧(cur:Int)<(g.length:Int):=by omega
   simp only[go_sem,c1,Ab,hpl,Int.toNat_natCast,hgc,Vn];refine ⟨⟨Cf _ _ rfl,by omega⟩,?_⟩;refine ih (w,o++[(w:Int)]) _ ⟨TS,by simp only;omega,by simp,by show (((o++[(w:Int)]).length:Nat):Int)+ds.getD w 0≤25;rw[List.length_append,List.length_singleton];omega⟩ (by simp only;omega) ?_
   (refine Wk.forget ?_;simp[Le,AG,Av,get,Aa,Ac,Ad,D.ids,Ai,AO.ids,Ae,base,Cq,Ab];done)
 · simp only[go_sem,c1];refine Ah ?_;simp only[go_sem];refine ⟨by rw[Ab],o,?_,Ys,by omega⟩;rw[EM _ _ (Nat.le_refl _)]
theorem YC (g:List (List Int)) (sh:List Bool) (v:Nat) (hg:B8 g) (FJ:sh.length=g.length) (hv:v<g.length):
   Aj Tryz.prog 86 [.p (.sl (AM g)),.p (.sl (Bf sh)),.p (.int .i64 (v:Nat))] [] fun h r=>h=[]∧∃o:List Int,r= .p (.sl (Ag o))∧o.length≤30:=by
 have hDl:=IY g sh v;have hd:=Qz g sh v hg FJ hv;have hf:=fun src hs h0=>Ai3 g sh src v hg FJ hv hs h0;have Oq:=Eg sh v (by omega);have Qv:(0:Int)≤(v:Int)∧(v:Int)<(g.length:Int):=by omega
 refine Ak Tryz.func86 rfl Xo (by simp[Tryz.f86]) ?_;simp only[go_sem,Ef,FJ,Int.toNat_natCast,Oq,Qv];cases hs:sh.getD v false;rotate_left
 · simp only[go_sem,hs];refine Ah ?_;simp only[go_sem];exact ⟨[],rfl,by simp⟩
 simp only[go_sem,hs];refine Au ((hd)) ?_;rintro h' r ⟨rfl,rfl⟩;generalize BG g sh v=ds at*;clear hd hs Oq;have Bj:∀k,k<(g.getD v []).length→∃w:Nat,(g.getD v []).getD k 0=(w:Int)∧w<g.length∧w≠v:=fun k hk=>QX hg hv hk;have Yo:=GP hg hv;have hgv:=DH g v hv;generalize g.getD v []=row at*;simp only[go_sem];refine Ao (fun q:Nat×Int=>⟨[(0,.p (.sl (AM g))),(1,.p (.sl (Bf sh))),(2,.p (.int .i64 (v:Nat))),(7,.p (.sl (Ag ds))),(8,.p (.int .i64 q.2)),(9,.p (.int .i64 (q.1:Nat)))],[],72⟩)
   (fun q=>q.1≤row.length∧(q.2=-1∨∃b:Nat,q.2=(b:Int)∧b<g.length∧0≤ds.getD b 0)) (fun q=>row.length - q.1) (0,-1) ⟨Nat.zero_le _,.inl rfl⟩ (Wk.forget (by simp[Le,AG,Av,get,Aa,Ac,Ad,D.ids,Ai,AO.ids,Ae,base])) ?_
 rintro ⟨k,bst⟩ m ⟨hk,hb⟩ ih;simp only at hk hb;simp only[go_sem,Aw,Ab,Int.toNat_natCast,hgv,Qv];refine AK (fun h3=>?_) (fun h3=>?_)
 · have HK:k<row.length:=by simp at h3;omega
   have D5:=As k (by omega);obtain ⟨w,hw,hwl,_⟩:=Bj k HK;have JV:=AD row k HK;rw[hw] at JV;have Ex:(0:Int)≤(k:Int)∧(k:Int)<(row.length:Int):=by omega
   have Ol:(0:Int)≤(w:Int)∧(w:Int)<(g.length:Int):=by omega
   have hDw:=AD ds w (by omega);simp only[go_sem,Aw,Ab,Int.toNat_natCast,hgv,Qv,JV,Ex];refine AY mixed (p:=[(0,0),(1,0),(2,0),(3,0),(4,0),(5,0),(6,0),(7,0),(8,0),(9,0),(10,0),(11,0),(12,0),(13,0),(14,0),(15,0),(16,0),(17,0),(18,0),(19,0)]) (by kernel_rfl) (by simp[Av,get]) ?_;cases c1:decide (0≤ds.getD w 0)
   · simp only[go_sem,Ab,hDl,Int.toNat_natCast,hDw,Ol,c1,D5];refine ih (k+1,bst) _ ⟨HK,hb⟩ (by simp only;omega) ?_
     (refine Wk.forget ?_;simp[Le,AG,Av,get,Aa,Ac,Ad,D.ids,Ai,AO.ids,Ae,base];done)
   have hnw:∃b:Nat,(w:Int)=(b:Int)∧b<g.length∧0≤ds.getD b 0:=⟨w,rfl,hwl,of_decide_eq_true c1⟩;rcases hb with rfl | ⟨b,rfl,hbl,hb0⟩
   · simp only[go_sem,Ab,hDl,Int.toNat_natCast,hDw,Ol,c1,D5];refine ih (k+1,(w:Int)) _ ⟨HK,.inr hnw⟩ (by simp only;omega) ?_
     (refine Wk.forget ?_;simp[Le,AG,Av,get,Aa,Ac,Ad,D.ids,Ai,AO.ids,Ae,base];done)
   · have hDb:=AD ds b (by omega);have hbi:(0:Int)≤(b:Int)∧(b:Int)<(g.length:Int):=by omega
     have hbn:¬(b:Int)<0:=by omega
     cases c2:decide (ds.getD w 0<ds.getD b 0)
     · simp only[go_sem,Ab,hDl,Int.toNat_natCast,hDw,Ol,c1,hbn,hDb,hbi,c2,D5];refine ih (k+1,(b:Int)) _ ⟨HK,.inr ⟨b,rfl,hbl,hb0⟩⟩ (by simp only;omega) ?_
       (refine Wk.forget ?_;simp[Le,AG,Av,get,Aa,Ac,Ad,D.ids,Ai,AO.ids,Ae,base];done)
     · simp only[go_sem,Ab,hDl,Int.toNat_natCast,hDw,Ol,c1,hbn,hDb,hbi,c2,D5];refine ih (k+1,(w:Int)) _ ⟨HK,.inr hnw⟩ (by simp only;omega) ?_
       (refine Wk.forget ?_;simp[Le,AG,Av,get,Aa,Ac,Ad,D.ids,Ai,AO.ids,Ae,base];done)
 · rcases hb with rfl | ⟨b,rfl,hbl,hb0⟩
   · simp only[go_sem];refine Ah ?_;simp only[go_sem];exact ⟨[],rfl,by simp⟩
   · have hbn:¬(b:Int)<0:=by omega
     simp only[go_sem,hbn];refine Au (hf b hbl hb0) ?_;rintro h' r ⟨rfl,o,rfl,Ys,SF⟩;have hwo:IntKind.i64.wrap ((o.length:Int) - 1)=((o.length - 1:Nat):Int):=by rw[An]<;>omega
     simp only[go_sem,Ab,hwo,Int.toNat_natCast,JB];have htl:(o.take (o.length - 1)).length≤o.length:=by simp
     refine ⟨⟨by omega,V4 _⟩,?_⟩;refine ⟨⟨V4 _,by omega⟩,?_⟩;refine Ah ?_;simp only[go_sem];refine ⟨?_,(v:Int)::o.take (o.length - 1),?_,by simp;omega⟩
     · simp[Ag]
     · simp[Ag,List.take_take]
theorem Aht (g:List (List Int)) (sh:List Bool) (hg:B8 g) (Zq:OD g) (FJ:sh.length=g.length):
   Aj Tryz.prog 47 [.p (.sl (AM g)),.p (.sl (Bf sh))] [] fun h r=>h=[]∧∃o:List Int,r= .BA [.p (.int .i64 (o.length:Nat)),.p (.sl (Ag o)),.p (.int .i64 0)]∧o.length≤30:=by
 have ht:=fun v hv=>YC g sh v hg FJ hv;have hl:=hg.1;refine Ak Tryz.func47 rfl Xs (by simp[Tryz.f47]) ?_;simp only[go_sem];refine Au ((Us g sh Zq)) ?_;rintro h' r ⟨rfl,rfl⟩;rw[if_pos hg,if_pos FJ];simp only[go_sem];refine Ao (fun q:Nat×List Int=>⟨[(0,.p (.sl (AM g))),(1,.p (.sl (Bf sh))),(8,.p (.sl (Ag q.2))),(9,.p (.int .i64 (q.1:Nat)))],[],46⟩)
   (fun q=>q.1≤g.length∧q.2.length≤30) (fun q=>g.length - q.1) (0,[]) ⟨Nat.zero_le _,by simp⟩ ((Wk.nil (t:=8) (q:=42) (sz:=1) 3 rfl rfl (by decide)).trans ((Wk.pure (t:=8) (id:=42) (sz:=1) (e:=3) (es:=[]) rfl rfl).trans (Wk.forget (by simp[Le,AG,Av,get,Aa,Ac,Ad,D.ids,Ai,AO.ids,Ae,base,Ag])))) ?_
 rintro ⟨v,bst⟩ m ⟨hv,hb⟩ ih;simp only at hv hb;simp only[go_sem,Aw];refine AK (fun h3=>?_) (fun h3=>?_)
 · have Vf:v<g.length:=by simp at h3;omega
   have Ve:=As v (by omega);simp only[go_sem];refine Au (ht v Vf) ?_;rintro h' r ⟨rfl,o,rfl,ho⟩;simp only[go_sem,Ab];cases c1:decide (0<(o.length:Int))
   · simp only[go_sem,Ab,c1,Ve];refine ih (v+1,bst) _ ⟨Vf,hb⟩ (by simp only;omega) ?_
     (refine Wk.forget ?_;simp[Le,AG,Av,get,Aa,Ac,Ad,D.ids,Ai,AO.ids,Ae,base];done)
   cases c2:decide ((bst.length:Int)=0);rotate_left
   · simp only[go_sem,Ab,c1,c2,Ve];refine ih (v+1,o) _ ⟨Vf,ho⟩ (by simp only;omega) ?_
     (refine Wk.forget ?_;simp[Le,AG,Av,get,Aa,Ac,Ad,D.ids,Ai,AO.ids,Ae,base];done)
   cases c3:decide ((o.length:Int)<(bst.length:Int))
   · simp only[go_sem,Ab,c1,c2,c3,Ve];refine ih (v+1,bst) _ ⟨Vf,hb⟩ (by simp only;omega) ?_
     (refine Wk.forget ?_;simp[Le,AG,Av,get,Aa,Ac,Ad,D.ids,Ai,AO.ids,Ae,base];done)
   · simp only[go_sem,Ab,c1,c2,c3,Ve];refine ih (v+1,o) _ ⟨Vf,ho⟩ (by simp only;omega) ?_
     (refine Wk.forget ?_;simp[Le,AG,Av,get,Aa,Ac,Ad,D.ids,Ai,AO.ids,Ae,base];done)
 · simp only[go_sem,Ab];refine Ah ?_;simp only[go_sem];exact ⟨bst,rfl,hb⟩
def cellsV (n:Nt):Int:=(n.blocks.length:Int)+BV n.spurs
theorem Tf {nb:Nat} {l:List BY} (h:Ch nb l):∀(k i:Nat),i+k≤l.length→BV (l.take i)≤BV (l.take (i+k))
 | 0,_,_=>Int.le_refl _
 | k+1,i,hk=>by
   have h1:=Tf h k i (by omega);have h2:=h (i+k) (by omega);obtain ⟨_,_,_,_,h5,_,_⟩:=h2;rw[show i+(k+1)=(i+k)+1 by omega,AR l (i+k) AP (by omega),Cx];omega
theorem Kd {nb:Nat} {l:List BY} (h:Ch nb l) {i:Nat} (hi:i<l.length):
   (nb:Int)≤(l.getD i AP).base∧(l.getD i AP).base+(l.getD i AP).AH≤(nb:Int)+BV l∧(l.getD i AP).base=(nb:Int)+BV (l.take i):=by
 obtain ⟨_,_,_,_,h5,h6,h7⟩:=h i hi;have h1:=EZ nb l i (by omega) (fun j hj=>h j (by omega));have h2:=Tf h (l.length - (i+1)) (i+1) (by omega);rw[show i+1+(l.length - (i+1))=l.length by omega,List.take_length,AR l i AP hi,Cx] at h2;omega
theorem Nk {nb:Nat} {l:List BY} (h:Ch nb l):0≤BV l∧BV l≤4*l.length:=by
 have:=EZ nb l l.length (Nat.le_refl _) h;rw[List.take_length] at this;exact this
theorem XV (n:Nt) (hn:validN n):Aj Tryz.prog 49 [.agg n.cs] [] fun h r=>h=[]∧r= .p (.int .i64 (cellsV n)):=by
 obtain ⟨e1,e2,e3,e4,e5,EI,e7,e8⟩:=hn;have RI:=e1.2.1;refine Ak Tryz.func49 rfl Aj2 (by simp[Tryz.f49]) ?_;simp only[go_sem,Nt.cs,Ay];refine Ao (fun i:Nat=>⟨[(1,.ptr 1 0),(3,.p (.int .i64 ((n.blocks.length:Int)+BV (n.spurs.take i)))),(4,.p (.int .i64 (i:Nat)))],[(1,.box (Nt.cs n))],24⟩)
   (fun i=>i≤n.spurs.length) (fun i=>n.spurs.length - i) 0 (Nat.zero_le _) (Wk.forget (by simp[Le,AG,Av,get,Aa,Ac,Ad,D.ids,Ai,AO.ids,Ae,base,Nt.cs,BV])) ?_
 rintro i m hi ih;simp only[go_sem,Nt.cs,Ax];refine AK (fun h2=>?_) (fun h2=>?_)
 · have AL:i<n.spurs.length:=by simp at h2;omega
   have hw:=As i (by omega);have hg:=CG n.spurs i AL;have Bm:(0:Int)≤(i:Int)∧(i:Int)<(n.spurs.length:Int):=by omega
   have hr:=EZ n.blocks.length n.spurs (i+1) AL (fun j hj=>EI j (by omega));have On:BV (n.spurs.take (i+1))=BV (n.spurs.take i)+(n.spurs.getD i AP).AH:=by rw[AR n.spurs i AP AL,Cx]
   rw[On] at hr;have VW:IntKind.i64.wrap ((n.blocks.length:Int)+BV (n.spurs.take i)+(n.spurs.getD i AP).AH)=(n.blocks.length:Int)+BV (n.spurs.take i)+(n.spurs.getD i AP).AH:=by rw[An]<;>omega
   simp only[go_sem,Nt.cs,Ax,Int.toNat_natCast,hg,Bm,VW,hw];refine ih (i+1) _ AL (by omega) ?_
   (refine Wk.forget ?_;simp[Le,AG,Av,get,Aa,Ac,Ad,D.ids,Ai,AO.ids,Ae,base,Nt.cs,On,Int.add_assoc];done)
 · simp only[go_sem];have:i=n.spurs.length:=by simp at h2;omega
   subst this;rw[List.take_length];rfl
def Kv (sh:List Bool) (s:BY):Bool:=!sh.getD s.Ft.toNat false&&(!sh.getD s.out.toNat false&&(List.range s.AH.toNat).all fun j=>!sh.getD (s.base.toNat+j) false)
theorem Alu (n:Nt) (hn:validN n) (sh:List Bool) (FJ:(sh.length:Int)=cellsV n) (s:Nat) (hs:s<n.spurs.length):
   Aj Tryz.prog 87 [.agg n.cs,.p (.sl (Bf sh)),.p (.int .i64 (s:Nat))] [] fun h r=>h=[]∧r= .p (.bool (Kv sh (n.spurs.getD s AP))):=by
 obtain ⟨e1,e2,e3,e4,e5,EI,e7,e8⟩:=hn;have RI:=e1.2.1;obtain ⟨i1,i2,i3,i4,i5,i6,i7⟩:=EI s hs;obtain ⟨r1,r2,r3⟩:=Kd EI hs;have B4:=Nk EI;have hg:=CG n.spurs s hs;have Yn:(0:Int)≤(s:Int)∧(s:Int)<(n.spurs.length:Int):=by omega
 unfold cellsV at FJ;refine Ak Tryz.func87 rfl Aid (by simp[Tryz.f87]) ?_;simp only[go_sem,Nt.cs,Ax,Int.toNat_natCast,hg,Yn];generalize n.spurs.getD s AP=sp at*;clear hg;obtain ⟨nm,dp,Ft,out,sl,bs⟩:=sp;simp only at i1 i2 i3 i4 i5 i6 i7 r1 r2 r3;obtain ⟨a,rfl⟩:∃a:Nat,Ft=(a:Int):=⟨Ft.toNat,by omega⟩;obtain ⟨b,rfl⟩:∃b:Nat,out=(b:Int):=⟨out.toNat,by omega⟩;obtain ⟨c,rfl⟩:∃c:Nat,bs=(c:Int):=⟨bs.toNat,by omega⟩;obtain ⟨d,rfl⟩:∃d:Nat,sl=(d:Int):=⟨sl.toNat,by omega⟩;have ha:=Eg sh a (by omega);have hb:=Eg sh b (by omega);have ha0:(0:Int)≤(a:Int)∧(a:Int)<(sh.length:Int):=by omega
 have hb0:(0:Int)≤(b:Int)∧(b:Int)<(sh.length:Int):=by omega
 have hO:Kv sh ⟨nm,dp,a,b,d,c⟩=(!sh.getD a false&&(!sh.getD b false&&(List.range d).all fun j=>!sh.getD (c+j) false)):=by simp[Kv]
 cases c1:sh.getD a false;rotate_left
 · simp only[go_sem,Ef,Int.toNat_natCast,ha,ha0,c1];rw[hO,c1];simp
 cases c2:sh.getD b false;rotate_left
 · simp only[go_sem,Ef,Int.toNat_natCast,ha,ha0,c1,hb,hb0,c2];rw[hO,c1,c2];simp
 simp only[go_sem,Ef,Int.toNat_natCast,ha,ha0,c1,hb,hb0,c2];rw[hO,c1,c2];refine Ao (fun j:Nat=>⟨[(1,.p (.sl (Bf sh))),(7,.ptr 7 0),(8,.p (.int .i64 ((c+j:Nat):Int)))],[(7,.box [.p (.str nm),.p (.bool dp),.p (.int .i64 (a:Nat)),.p (.int .i64 (b:Nat)),.p (.int .i64 (d:Nat)),.p (.int .i64 (c:Nat))])],41⟩)
   (fun j=>j≤d∧∀u,u<j→sh.getD (c+u) false=false) (fun j=>d - j) 0 ⟨Nat.zero_le _,fun u hu=>absurd hu (Nat.not_lt_zero _)⟩ (Wk.forget (by simp[Le,AG,Av,get,Aa,Ac,Ad,D.ids,Ai,AO.ids,Ae,base])) ?_
 rintro j m ⟨hj,Aot⟩ ih;have hwe:IntKind.i64.wrap ((c:Int)+(d:Int))=(c:Int)+(d:Int):=by rw[An]<;>omega
 simp only[go_sem,hwe];refine AK (fun h2=>?_) (fun h2=>?_)
 · have Oo:j<d:=by simp at h2;omega
   have hw:=As (c+j) (by omega);have hgj:=Eg sh (c+j) (by omega);have TV:(0:Int)≤((c+j:Nat):Int)∧((c+j:Nat):Int)<(sh.length:Int):=by omega
   simp only[go_sem,Ef,Int.toNat_natCast,hgj,TV];cases c3:sh.getD (c+j) false
   · simp only[go_sem,c3,hw];refine ih (j+1) _ ⟨Oo,fun u hu=>?_⟩ (by omega) ?_
     · rcases Nat.lt_succ_iff_lt_or_eq.1 hu with h5 | rfl
       · exact Aot u h5
       · exact c3
     · (refine Wk.forget ?_;simp[Le,AG,Av,get,Aa,Ac,Ad,D.ids,Ai,AO.ids,Ae,base,Nat.add_assoc];done)
   · simp only[go_sem,c3];have hex:((List.range d).all fun j=>!sh.getD (c+j) false)=false:=by
       rw[List.all_eq_false];exact ⟨j,List.mem_range.2 Oo,by rw[c3];simp⟩
     rw[hex]
 · simp only[go_sem];have:j=d:=by simp at h2;omega
   subst this;have Fe:((List.range j).all fun j=>!sh.getD (c+j) false)=true:=by
     rw[List.all_eq_true];intro u hu;rw[Aot u (List.mem_range.1 hu)];rfl
   rw[Fe]
def slotsV (sh:List Bool):List BY→Int
 | []=>0
 | s::r=>(if s.A1&&Kv sh s then s.AH else 0)+slotsV sh r
theorem Kf (sh:List Bool) (l:List BY) (s:BY):slotsV sh (l++[s])=slotsV sh l+(if s.A1&&Kv sh s then s.AH else 0):=by
 induction l with
 | nil=>simp[slotsV]
 | cons x r ih=>simp only[List.cons_append,slotsV,ih];omega
theorem Mk (sh:List Bool) {nb:Nat} {l:List BY} (h:Ch nb l):∀k,k≤l.length→0≤slotsV sh (l.take k)∧slotsV sh (l.take k)≤4*k
 | 0,_=>by simp[slotsV]
 | k+1,hk=>by
   have h1:=Mk sh h k (by omega);obtain ⟨_,_,_,_,h5,h6,_⟩:=h k (by omega);rw[AR l k AP (by omega),Kf];split<;>omega
theorem Wq (n:Nt) (hn:validN n) (sh:List Bool) (FJ:(sh.length:Int)=cellsV n):
   Aj Tryz.prog 48 [.agg n.cs,.p (.sl (Bf sh))] [] fun h r=>h=[]∧r= .p (.int .i64 (slotsV sh n.spurs)):=by
 have hO:=fun s hs=>Alu n hn sh FJ s hs;obtain ⟨e1,e2,e3,e4,e5,EI,e7,e8⟩:=hn;refine Ak Tryz.func48 rfl Aj3 (by simp[Tryz.f48]) ?_;simp only[go_sem,Nt.cs];refine Ao (fun i:Nat=>⟨[(1,.p (.sl (Bf sh))),(2,.ptr 2 0),(5,.p (.int .i64 (slotsV sh (n.spurs.take i)))),(6,.p (.int .i64 (i:Nat)))],[(2,.box (Nt.cs n))],35⟩)
   (fun i=>i≤n.spurs.length) (fun i=>n.spurs.length - i) 0 (Nat.zero_le _) (Wk.forget (by simp[Le,AG,Av,get,Aa,Ac,Ad,D.ids,Ai,AO.ids,Ae,base,Nt.cs,slotsV])) ?_
 rintro i m hi ih;simp only[go_sem,Nt.cs,Ax];refine AK (fun h2=>?_) (fun h2=>?_)
 · have AL:i<n.spurs.length:=by simp at h2;omega
   have hw:=As i (by omega);have hg:=CG n.spurs i AL;have Bm:(0:Int)≤(i:Int)∧(i:Int)<(n.spurs.length:Int):=by omega
   have hr:=Mk sh EI i hi;have On:slotsV sh (n.spurs.take (i+1))=slotsV sh (n.spurs.take i)+(if (n.spurs.getD i AP).A1&&Kv sh (n.spurs.getD i AP) then (n.spurs.getD i AP).AH else 0):=by rw[AR n.spurs i AP AL,Kf]
   have hOi:=hO i AL;obtain ⟨_,_,_,_,i5,i6,_⟩:=EI i AL;generalize n.spurs.getD i AP=s at*;have VW:IntKind.i64.wrap (slotsV sh (n.spurs.take i)+s.AH)=slotsV sh (n.spurs.take i)+s.AH:=by rw[An]<;>omega
   generalize slotsV sh (n.spurs.take i)=S at*;cases c1:s.A1
   · simp only[go_sem,Nt.cs,Ax,Int.toNat_natCast,hg,Bm,c1,hw];refine ih (i+1) _ AL (by omega) ?_
     (refine Wk.forget ?_;simp[Le,AG,Av,get,Aa,Ac,Ad,D.ids,Ai,AO.ids,Ae,base,Nt.cs,On,c1];done)
   simp only[go_sem,Nt.cs,Ax,Int.toNat_natCast,hg,Bm,c1];refine Au ((hOi)) ?_;rintro h' r ⟨rfl,rfl⟩;cases c2:Kv sh s
   · simp only[go_sem,c2,hw];refine ih (i+1) _ AL (by omega) ?_
     (refine Wk.forget ?_;simp[Le,AG,Av,get,Aa,Ac,Ad,D.ids,Ai,AO.ids,Ae,base,Nt.cs,On,c1,c2];done)
   · simp only[go_sem,Nt.cs,Ax,Int.toNat_natCast,hg,Bm,c1,c2,VW,hw];refine ih (i+1) _ AL (by omega) ?_
     (refine Wk.forget ?_;simp[Le,AG,Av,get,Aa,Ac,Ad,D.ids,Ai,AO.ids,Ae,base,Nt.cs,On,c1,c2];done)
 · simp only[go_sem];have:i=n.spurs.length:=by simp at h2;omega
   subst this;rw[List.take_length]
theorem Wi (n:Nat):List.take n (List.replicate n [Pd.bool false])=Bf (List.replicate n false):=by simp[Bf]
theorem C4 {n:Nt} (hn:validN n):B8 n.next∧OD n.next∧n.next.length=n.blocks.length:=by
 obtain ⟨⟨h1,h2,h3,h4⟩,_⟩:=hn;refine ⟨⟨by omega,fun i hi=>?_⟩,⟨by omega,fun r hr=>?_⟩,h3⟩
 · rw[h3];exact (h4 i (by omega)).2.2
 · obtain ⟨i,hi,rfl⟩:=List.mem_iff_getElem.1 hr;have:=(h4 i (by omega)).2.1;rw[getD_eq hi] at this;omega
theorem E0 {n:Nt} (hn:validN n):Dd n:=by
 have hg:=C4 hn;obtain ⟨⟨h1,h2,h3,h4⟩,h5,h6,h7,_⟩:=hn;exact ⟨by omega,hg.2.1,by omega,by omega⟩
theorem Ai0 (n:Nt) (hn:validN n):Aj Tryz.prog 21 [.agg n.cs] [] fun h r=>h=[]∧∃(o:List Int) (sl cap:Int),r= .BA [.agg [.p (.int .i64 (o.length:Nat)),.p (.sl (Ag o)),.p (.int .i64 sl),.p (.int .i64 cap)],.p (.int .i64 0)]∧cap≤sl∧sl=slotsV (List.replicate (cellsV n).toNat false) n.spurs:=by
 have hV:=Li n (E0 hn);rw[decide_eq_true hn] at hV;obtain ⟨hg,Zq,J7⟩:=C4 hn;have hG:=Aht n.next (List.replicate n.next.length false) hg Zq (by simp)
 have hC:=XV n hn;have hS:=fun (c:Nat) (hc:(c:Int)=cellsV n)=>Wq n hn (List.replicate c false) (by simpa using hc);have EI:=hn.2.2.2.2.2.1;have RI:=hn.1.2.1;have hs6:=hn.2.1;have B4:=Nk EI;obtain ⟨c,hc⟩:∃c:Nat,cellsV n=(c:Int):=⟨(cellsV n).toNat,by unfold cellsV;omega⟩;have Vn:c≤48:=by unfold cellsV at hc;omega
 have hS:=hS c hc.symm;have hsr:=Mk (List.replicate c false) EI n.spurs.length (Nat.le_refl _);rw[List.take_length] at hsr;rw[hc] at hC ⊢;rw[Int.toNat_natCast];generalize slotsV (List.replicate c false) n.spurs=S at*;rw[J7] at hG;refine Ak Tryz.func21 rfl Xw (by simp[Tryz.f21]) ?_;simp only[go_sem,Nt.cs];refine Au ((hV)) ?_;rintro h' r ⟨rfl,rfl⟩;simp only[go_sem,Nt.cs];refine AY mixed (p:=[(0,0),(1,0),(2,0),(3,0),(4,0),(5,1),(6,2),(7,0),(8,0),(9,0),(10,0),(11,0),(12,0),(13,0)]) (by kernel_rfl) (by simp[Av,get]) ?_;simp only[go_sem,Nt.cs,Ay,Int.toNat_natCast,List.length_replicate,Wi];refine ⟨by omega,?_⟩;refine Bu hG ?_;rintro h' r ⟨rfl,o,rfl,ho⟩;simp only[go_sem,Nt.cs];refine AY mixed (p:=[(0,0),(1,0),(2,0),(3,0),(8,1),(4,2),(5,1),(6,2),(7,0),(9,3)]) (by kernel_rfl) (by simp[Av,get]) ?_;simp only[go_sem,Nt.cs];refine Bu ((hC)) ?_;rintro h' r ⟨rfl,rfl⟩;simp only[go_sem,Nt.cs,Int.toNat_natCast,List.length_replicate,Wi];refine ⟨by omega,?_⟩;refine Bu ((hS)) ?_;rintro h' r ⟨rfl,rfl⟩;simp only[go_sem,Nt.cs];cases c1:decide (0<(o.length:Int))
 · simp only[go_sem,c1];refine Ah ?_;simp only[go_sem];exact ⟨o,S,S,rfl,Int.le_refl _,rfl⟩
 · have NL:IntKind.i64.wrap ((o.length:Int) - 1)=(o.length:Int) - 1:=by rw[An]<;>omega
   simp only[go_sem,c1,NL];refine Ah ?_;simp only[go_sem];exact ⟨o,S,_,rfl,by omega,rfl⟩
def Pz (s:BY):List Int:=if s.A1=true then (List.range s.AH.toNat).map (fun j=>s.base+((j:Nat):Int)) else []
def D9 (l:List BY):List Int:=l.flatMap Pz
theorem L4 (l:List BY) (s:BY):D9 (l++[s])=D9 l++Pz s:=by simp[D9]
theorem Tj {s:BY} {x:Int}:x∈Pz s↔Lt x s=true:=by
 unfold Pz Lt;by_cases h:s.A1=true
 · rw[if_pos h,h];simp only[List.mem_map,List.mem_range,Bool.true_and,Bool.and_eq_true,decide_eq_true_eq];constructor
   · rintro ⟨j,hj,rfl⟩;omega
   · rintro ⟨h1,h2⟩;exact ⟨(x - s.base).toNat,by omega,by omega⟩
 · have h2:s.A1=false:=by simpa using h
   rw[if_neg h,h2];simp
theorem Ws (s:BY):(Pz s).Nodup:=by
 unfold Pz;split
 · rw[List.nodup_iff_pairwise_ne,List.pairwise_map];exact (List.pairwise_lt_range).imp fun h=>by omega
 · exact List.nodup_nil
theorem Py {nb:Nat} {l:List BY} (h:Ch nb l):∀k,k≤l.length→(D9 (l.take k)).Nodup∧∀x∈D9 (l.take k),x<(nb:Int)+BV (l.take k)
 | 0,_=>by simp[D9]
 | k+1,hk=>by
   obtain ⟨h1,h2⟩:=Py h k (by omega);have hs:=h k (by omega);rw[AR l k AP (by omega),L4,Cx];generalize l.getD k AP=s at*;obtain ⟨_,_,_,_,h5,h6,h7⟩:=hs;have hm:∀x∈Pz s,s.base≤x∧x<s.base+s.AH:=fun x hx=>by
     have:=Tj.1 hx;unfold Lt at this;simp at this;exact ⟨this.2.1,this.2.2⟩
   refine ⟨?_,fun x hx=>?_⟩
   · rw[List.nodup_append];refine ⟨h1,Ws s,fun x hx y hy e=>?_⟩;have h8:=h2 x hx;have h9:=hm y hy;omega
   · rcases List.mem_append.1 hx with hx | hx
     · have:=h2 x hx;omega
     · have:=hm x hx;omega
theorem Ahv (c k:Nat):(List.replicate c false).getD k false=false:=by
 simp only[List.getD,List.getElem?_replicate];split<;>rfl
theorem Aaz (c:Nat) (s:BY):Kv (List.replicate c false) s=true:=by
 unfold Kv;simp only[Ahv];simp
theorem Pw {nb:Nat} {l:List BY} (h:Ch nb l) (c:Nat):∀k,k≤l.length→slotsV (List.replicate c false) (l.take k)=((D9 (l.take k)).length:Int)
 | 0,_=>by simp[slotsV,D9]
 | k+1,hk=>by
   have h1:=Pw h c k (by omega);have hs:=h k (by omega);rw[AR l k AP (by omega),Kf,L4,List.length_append,h1,Aaz];obtain ⟨_,_,_,_,h5,h6,h7⟩:=hs;generalize l.getD k AP=s at*;unfold Pz;cases hd:s.A1
   · simp
   · simp;omega
theorem Ac5 {nb:Nat} {l:List BY} (h:Ch nb l) (c:Nat) {rb:List Int} (hr:(rb.length:Int)<slotsV (List.replicate c false) l):∃s∈l,∃j:Nat,s.A1=true∧(j:Int)<s.AH∧s.base+(j:Int)∉rb:=by
 have h1:=Pw h c l.length (Nat.le_refl _);have h2:=(Py h l.length (Nat.le_refl _)).1;rw[List.take_length] at h1 h2;have BC:¬∀x∈D9 l,x∈rb:=fun hh=>by have:=Ag8 _ rb h2 hh;omega
 have:∃x,x∈D9 l∧x∉rb:=Classical.byContradiction fun hc=>BC fun x hx=>Classical.byContradiction fun Jo=>hc ⟨x,hx,Jo⟩;obtain ⟨x,hx,Jo⟩:=this;obtain ⟨s,hs,Fk⟩:=List.mem_flatMap.1 hx;have h3:=Tj.1 Fk;unfold Lt at h3;simp at h3;exact ⟨s,hs,(x - s.base).toNat,h3.1,by omega,by rw[show s.base+(((x - s.base).toNat:Nat):Int)=x by omega];exact Jo⟩
def RP (b i:Nat) (r:List Int):Prop:=r.Pairwise (· < ·)∧(∀x∈r,0≤x∧x<(b:Int)∧x≠(i:Int))∧r.length≤4∧(1<b→(((i+1) % b:Nat):Int)∈r)
theorem RP.row {b i:Nat} {r:List Int} (h:RP b i r):Gn b i r:=by
 intro k hk;obtain ⟨h1,h2,_,_⟩:=h;have h3:=h2 _ (A7 r k 0 hk);refine ⟨h3.1,h3.2.1,h3.2.2,fun Ex=>?_⟩;rw[getD_eq hk,getD_eq (show k - 1<r.length by omega)];exact List.pairwise_iff_getElem.1 h1 (k - 1) k (by omega) hk (by omega)
theorem RP.ins {b i:Nat} {r:List Int} {x:Int} (h:RP b i r) (h0:0≤x) (hb:x<(b:Int)) (hi:x≠(i:Int)) (hn:x∉r) (hl:r.length<4):RP b i (IE r x):=by
 obtain ⟨h1,h2,h3,h4⟩:=h;refine ⟨Ah0 r x h1 hn,fun y hy=>?_,by rw[Agz];omega,fun Ou=>(Rp r x _).2 (.inr (h4 Ou))⟩;rcases (Rp r x y).1 hy with rfl | hy
 · exact ⟨h0,hb,hi⟩
 · exact h2 y hy
theorem IW (l:List (List Int)) (i:Nat):((AM l)[i]?.getD []).tail=[]:=by
 unfold AM;rw[List.getElem?_map];cases l[i]?<;>rfl
theorem Aln (l:List Int) (at_ b:Nat) (bl:List JN) (nx:List (List Int)) (G4:at_<1000000) (Ou:1≤b) (hb:b≤10) (hbl:bl.length=b) (hnx:nx.length=b) (Ax9:∀i,i<b→nx.getD i []=[]):
   Aj Tryz.prog 57 [.ptr 1000000 0,.ptr 1000001 0]
     [(1000000,.box (Br l at_)),(1000001,.box [.ref 1000002 0 b b,.ref 1000003 0 b b,.cl [],.cl [],.p (.int .i64 0),.p (.int .i64 0),.p (.int .i64 0),.p (.int .i64 0)]),(1000002,.arr 76 3 (Bi bl)),(1000003,.arr 22 1 (AM nx))]
     fun h r=>∃at2 nx2,at2≤at_+20∧nx2.length=b∧(∀i,i<b→RP b i (nx2.getD i []))∧r= .BA []∧
       h=[(1000000,.box (Br l at2)),(1000001,.box [.ref 1000002 0 b b,.ref 1000003 0 b b,.cl [],.cl [],.p (.int .i64 0),.p (.int .i64 0),.p (.int .i64 0),.p (.int .i64 0)]),(1000002,.arr 76 3 (Bi bl)),(1000003,.arr 22 1 (AM nx2))]:=by
 refine Ak Tryz.func57 rfl Aiw (by simp[Tryz.f57]) ?_;simp only[go_sem,Br];refine ⟨by rw[Ay];exact hbl.symm,?_⟩;refine Ao (fun q:Nat×List (List Int)=>⟨[(0,.ptr 1000000 0),(1,.ptr 1000001 0),(4,.p (.int .i64 (b:Nat))),(5,.p (.int .i64 (q.1:Nat)))],
     [(1000000,.box [.p (.sl (Ag l)),.p (.int .i64 (at_:Nat))]),(1000001,.box [.ref 1000002 0 b b,.ref 1000003 0 b b,.cl [],.cl [],.p (.int .i64 0),.p (.int .i64 0),.p (.int .i64 0),.p (.int .i64 0)]),(1000002,.arr 76 3 (Bi bl)),(1000003,.arr 22 1 (AM q.2))],98⟩)
   (fun q=>q.1≤b∧q.2.length=b∧(∀j,j<q.1→RP b j (q.2.getD j []))∧(∀j,q.1≤j→j<b→q.2.getD j []=[])) (fun q=>b - q.1) (0,nx) ⟨Nat.zero_le _,hnx,fun j hj=>absurd hj (Nat.not_lt_zero _),fun j _ hj=>Ax9 j hj⟩ (Wk.forget (by simp[Le,AG,Av,get,Aa,Ac,Ad,D.ids,Ai,AO.ids,Ae,base,AM])) ?_
 rintro ⟨i,g⟩ m ⟨hi,hgl,Ahk,Ah8⟩ ih;simp only at hi hgl Ahk Ah8;cases c1:decide ((i:Int)<(b:Int));rotate_left
 · cases c2:decide (1<(b:Int));rotate_left
   · have hib:i<b:=by have:=of_decide_eq_true c1;omega
     have SI:1<b:=by have:=of_decide_eq_true c2;omega
     have hw:=As i (by omega);have W9:((i+1:Nat):Int).tmod (b:Int)=(((i+1) % b:Nat):Int):=by rw[Int.tmod_eq_emod_of_nonneg (by omega)];omega
     have BC:¬(b:Int)=0:=by omega
     have Bm:(0:Int)≤(i:Int)∧(i:Int)<(b:Int):=by omega
     simp only[go_sem,c1,c2];refine AY mixed (p:=[(0,0),(1,0),(2,0),(3,0),(4,0),(5,0),(6,0),(7,0),(8,0),(9,1),(10,0),(11,3)]) (by kernel_rfl) (by simp[Av,get]) ?_;simp only[go_sem,hw,W9,BC,Aw,hgl,Int.toNat_natCast,Bm];refine ih (i+1,g.set i [(((i+1) % b:Nat):Int)]) _ ⟨hib,by simpa using hgl,fun j hj=>?_,fun j hj hjb=>?_⟩ (by simp only;omega) ?_
     · rw[Cm];by_cases e:i=j
       · subst e;rw[if_pos ⟨rfl,by omega⟩];have hm:(i+1) % b<b:=Nat.mod_lt _ (by omega);have Qg:(i+1) % b≠i:=by
           intro h;rcases Nat.lt_or_ge (i+1) b with h5 | h5
           · rw[Nat.mod_eq_of_lt h5] at h;omega
           · have:i+1=b:=by omega
             rw[this,Nat.mod_self] at h;omega
         refine ⟨List.pairwise_singleton _ _,fun x hx=>?_,by simp,fun _=>by simp⟩;rw[List.mem_singleton] at hx;subst hx;omega
       · rw[if_neg (fun h=>e h.1)];exact Ahk j (by omega)
     · rw[Cm,if_neg (by omega)];exact Ah8 j (by omega) hjb
     · (refine Wk.forget ?_;simp[Le,AG,Av,get,Aa,Ac,Ad,D.ids,Ai,AO.ids,Ae,base,K5,IW,Ag];done)
   · have hb0:b=1:=by have:=of_decide_eq_false c2;omega
     have HP:i=0:=by have:=of_decide_eq_true c1;omega
     have hRP:∀u,u<b→RP b u (g.getD u []):=fun u hu=>by
       rw[Ah8 u (by omega) hu];exact ⟨List.Pairwise.nil,fun x hx=>absurd hx (by simp),by simp,fun h=>absurd h (by omega)⟩
     simp only[go_sem,c1,c2];refine Au ((Bo l at_ 4 (by omega) (AX _ (by omega) (by omega)))) ?_;rintro h' r ⟨rfl,rfl⟩;obtain ⟨k0,Ex,hk4⟩:=Bb l at_ 4 (by omega);simp only[go_sem,Br,Ex];refine Ao (fun q:Nat×Nat×List (List Int)=>⟨[(0,.ptr 1000000 0),(1,.ptr 1000001 0),(4,.p (.int .i64 (b:Nat))),(6,.p (.int .i64 (q.1:Nat)))],
         [(1000000,.box [.p (.sl (Ag l)),.p (.int .i64 (q.2.1:Nat))]),(1000001,.box [.ref 1000002 0 b b,.ref 1000003 0 b b,.cl [],.cl [],.p (.int .i64 0),.p (.int .i64 0),.p (.int .i64 0),.p (.int .i64 0)]),(1000002,.arr 76 3 (Bi bl)),(1000003,.arr 22 1 (AM q.2.2))],98⟩)
       (fun q=>q.1≤3∧q.2.1≤at_+1+3*(3 - q.1)∧q.2.2.length=b∧∀i,i<b→RP b i (q.2.2.getD i [])) (fun q=>q.1) (k0,at_+1,g) ⟨by simp only;omega,by simp only;omega,hgl,hRP⟩ (Wk.forget (by simp[Le,AG,Av,get,Aa,Ac,Ad,D.ids,Ai,AO.ids,Ae,base,AM])) ?_
     rintro ⟨k,a,g2⟩ m2 ⟨hk3,Fe,CY,Ff⟩ Fi;simp only at hk3 Fe CY Ff;cases d1:decide (0<(k:Int))
     · simp only[go_sem,d1];refine Bc ?_;simp only[go_sem];refine ⟨a,g2,by omega,CY,Ff,?_⟩;first | exact ⟨rfl,rfl⟩ | rfl | simp
     cases d2:decide (2<(b:Int))
     · simp only[go_sem,d1,d2];refine Bc ?_;simp only[go_sem];refine ⟨a,g2,by omega,CY,Ff,?_⟩;first | exact ⟨rfl,rfl⟩ | rfl | simp
     have hkp:1≤k:=by have:=of_decide_eq_true d1;omega
     obtain ⟨k,rfl⟩:∃j,k=j+1:=⟨k - 1,by omega⟩;have D5:=Fy k (by omega);have hb3:2<b:=by have:=of_decide_eq_true d2;omega
     have hbz:(0:Int)<(b:Int):=by omega
     obtain ⟨ii,hii,Ax2⟩:=Bb l a b hbz;obtain ⟨jj,hjj,Ax1⟩:=Bb l (a+1) b hbz;have Ie:(0:Int)≤(ii:Int)∧(ii:Int)<(b:Int):=by omega
     have Gl:=DH g2 ii (by omega);have hRl:=(Ff ii (by omega)).2.2.1;simp only[go_sem,d1,d2];refine Au ((Bo l a b (by omega) (AX _ (by omega) (by omega)))) ?_;rintro h' r ⟨rfl,rfl⟩;simp only[go_sem,Br,hii];refine Au ((Bo l (a+1) b (by omega) (AX _ (by omega) (by omega)))) ?_;rintro h' r ⟨rfl,rfl⟩;simp only[go_sem,Br,hjj];refine Au ((Bo l (a+1+1) 3 (by omega) (AX _ (by omega) (by omega)))) ?_;rintro h' r ⟨rfl,rfl⟩;simp only[go_sem,Br];have RA:(((ii:Int)+2)).tmod (b:Int)=(((ii+2) % b:Nat):Int):=by
       rw[show (ii:Int)+2=((ii+2:Nat):Int) by omega,Int.tmod_eq_emod_of_nonneg (by omega)];exact (Int.natCast_emod _ _).symm
     have TR:IntKind.i64.wrap ((ii:Int)+2)=(ii:Int)+2:=by rw[An]<;>omega
     have Ahn:¬(b:Int)=0:=by omega
     have Qg:(ii+2) % b<b:=Nat.mod_lt _ (by omega);cases d3:decide (0<Kx l (a+1+1) 3)
     · skip
       have hJ0:(0:Int)≤((jj:Nat):Int)∧((jj:Nat):Int)<(b:Int):=by omega
       cases d4:decide ((ii:Int)=((jj:Nat):Int));rotate_left
       · simp only[go_sem,d3,D5,d4,D5];refine Fi (k,a+1+1+1,g2) _ ⟨by simp only;omega,by simp only;omega,CY,Ff⟩ (by simp only;omega) ?_
         (refine Wk.forget ?_;simp[Le,AG,Av,get,Aa,Ac,Ad,D.ids,Ai,AO.ids,Ae,base];done)
       simp only[go_sem,d3,D5,d4,Aw,CY,Int.toNat_natCast,Gl,Ie];refine Au ((KT (g2.getD ii []) ((jj:Nat):Int) (by omega))) ?_;rintro h' r ⟨rfl,rfl⟩;cases d5:decide (((jj:Nat):Int)∈g2.getD ii []);rotate_left
       · simp only[go_sem,d5,D5];refine Fi (k,a+1+1+1,g2) _ ⟨by simp only;omega,by simp only;omega,CY,Ff⟩ (by simp only;omega) ?_
         (refine Wk.forget ?_;simp[Le,AG,Av,get,Aa,Ac,Ad,D.ids,Ai,AO.ids,Ae,base];done)
       cases d6:decide (((g2.getD ii []).length:Int)<4)
       · simp only[go_sem,d5,Aw,Ab,CY,Int.toNat_natCast,Gl,Ie,d6,D5];refine Fi (k,a+1+1+1,g2) _ ⟨by simp only;omega,by simp only;omega,CY,Ff⟩ (by simp only;omega) ?_
         (refine Wk.forget ?_;simp[Le,AG,Av,get,Aa,Ac,Ad,D.ids,Ai,AO.ids,Ae,base];done)
       simp only[go_sem,d5,Aw,Ab,CY,Int.toNat_natCast,Gl,Ie,d6];refine AY mixed (p:=[(0,0),(1,0),(2,0),(3,0),(4,0),(5,0),(6,0),(7,0),(8,0),(9,0),(10,0),(11,0),(12,0),(13,2),(14,0),(15,3)]) (by kernel_rfl) (by simp[Av,get]) ?_;simp only[go_sem,Aw,Ab,CY,Int.toNat_natCast,Gl,Ie];refine Bu ((Ls (g2.getD ii []) ((jj:Nat):Int) (by omega))) ?_;rintro h' r ⟨rfl,rfl⟩;simp only[go_sem,Aw,CY,Int.toNat_natCast,Ie,D5];refine Fi (k,a+1+1+1,g2.set ii (IE (g2.getD ii []) ((jj:Nat):Int))) _ ⟨by simp only;omega,by simp only;omega,by simpa using CY,fun u hu=>?_⟩ (by simp only;omega) ?_
       · rw[Cm];by_cases e:ii=u
         · subst e;rw[if_pos ⟨rfl,by omega⟩];exact (Ff ii hu).ins hJ0.1 hJ0.2 (fun h=>of_decide_eq_false d4 h.symm) (of_decide_eq_false d5) (by have:=of_decide_eq_true d6;omega)
         · rw[if_neg (fun h=>e h.1)];exact Ff u hu
       · (refine Wk.forget ?_;simp[Le,AG,Av,get,Aa,Ac,Ad,D.ids,Ai,AO.ids,Ae,base,K5,IW];done)
     · generalize (ii+2) % b=J at RA Qg;have hJ0:(0:Int)≤((J:Nat):Int)∧((J:Nat):Int)<(b:Int):=by omega
       cases d4:decide ((ii:Int)=((J:Nat):Int));rotate_left
       · simp only[go_sem,d3,TR,RA,Ahn,d4,D5];refine Fi (k,a+1+1+1,g2) _ ⟨by simp only;omega,by simp only;omega,CY,Ff⟩ (by simp only;omega) ?_
         (refine Wk.forget ?_;simp[Le,AG,Av,get,Aa,Ac,Ad,D.ids,Ai,AO.ids,Ae,base];done)
       simp only[go_sem,d3,TR,RA,Ahn,d4,Aw,CY,Int.toNat_natCast,Gl,Ie];refine Au ((KT (g2.getD ii []) ((J:Nat):Int) (by omega))) ?_;rintro h' r ⟨rfl,rfl⟩;cases d5:decide (((J:Nat):Int)∈g2.getD ii []);rotate_left
       · simp only[go_sem,d5,D5];refine Fi (k,a+1+1+1,g2) _ ⟨by simp only;omega,by simp only;omega,CY,Ff⟩ (by simp only;omega) ?_
         (refine Wk.forget ?_;simp[Le,AG,Av,get,Aa,Ac,Ad,D.ids,Ai,AO.ids,Ae,base];done)
       cases d6:decide (((g2.getD ii []).length:Int)<4)
       · simp only[go_sem,d5,Aw,Ab,CY,Int.toNat_natCast,Gl,Ie,d6,D5];refine Fi (k,a+1+1+1,g2) _ ⟨by simp only;omega,by simp only;omega,CY,Ff⟩ (by simp only;omega) ?_
         (refine Wk.forget ?_;simp[Le,AG,Av,get,Aa,Ac,Ad,D.ids,Ai,AO.ids,Ae,base];done)
       simp only[go_sem,d5,Aw,Ab,CY,Int.toNat_natCast,Gl,Ie,d6];refine AY mixed (p:=[(0,0),(1,0),(2,0),(3,0),(4,0),(5,0),(6,0),(7,0),(8,0),(9,0),(10,0),(11,0),(12,0),(13,2),(14,0),(15,3)]) (by kernel_rfl) (by simp[Av,get]) ?_;simp only[go_sem,Aw,Ab,CY,Int.toNat_natCast,Gl,Ie];refine Bu ((Ls (g2.getD ii []) ((J:Nat):Int) (by omega))) ?_;rintro h' r ⟨rfl,rfl⟩;simp only[go_sem,Aw,CY,Int.toNat_natCast,Ie,D5];refine Fi (k,a+1+1+1,g2.set ii (IE (g2.getD ii []) ((J:Nat):Int))) _ ⟨by simp only;omega,by simp only;omega,by simpa using CY,fun u hu=>?_⟩ (by simp only;omega) ?_
       · rw[Cm];by_cases e:ii=u
         · subst e;rw[if_pos ⟨rfl,by omega⟩];exact (Ff ii hu).ins hJ0.1 hJ0.2 (fun h=>of_decide_eq_false d4 h.symm) (of_decide_eq_false d5) (by have:=of_decide_eq_true d6;omega)
         · rw[if_neg (fun h=>e h.1)];exact Ff u hu
       · (refine Wk.forget ?_;simp[Le,AG,Av,get,Aa,Ac,Ad,D.ids,Ai,AO.ids,Ae,base,K5,IW];done)
 · have TW:i=b:=by have:=of_decide_eq_false c1;omega
   have hRP:∀u,u<b→RP b u (g.getD u []):=fun u hu=>Ahk u (by omega);simp only[go_sem,c1,c1];refine Au ((Bo l at_ 4 (by omega) (AX _ (by omega) (by omega)))) ?_;rintro h' r ⟨rfl,rfl⟩;obtain ⟨k0,Ex,hk4⟩:=Bb l at_ 4 (by omega);simp only[go_sem,Br,Ex];refine Ao (fun q:Nat×Nat×List (List Int)=>⟨[(0,.ptr 1000000 0),(1,.ptr 1000001 0),(4,.p (.int .i64 (b:Nat))),(6,.p (.int .i64 (q.1:Nat)))],
       [(1000000,.box [.p (.sl (Ag l)),.p (.int .i64 (q.2.1:Nat))]),(1000001,.box [.ref 1000002 0 b b,.ref 1000003 0 b b,.cl [],.cl [],.p (.int .i64 0),.p (.int .i64 0),.p (.int .i64 0),.p (.int .i64 0)]),(1000002,.arr 76 3 (Bi bl)),(1000003,.arr 22 1 (AM q.2.2))],98⟩)
     (fun q=>q.1≤3∧q.2.1≤at_+1+3*(3 - q.1)∧q.2.2.length=b∧∀i,i<b→RP b i (q.2.2.getD i [])) (fun q=>q.1) (k0,at_+1,g) ⟨by simp only;omega,by simp only;omega,hgl,hRP⟩ (Wk.forget (by simp[Le,AG,Av,get,Aa,Ac,Ad,D.ids,Ai,AO.ids,Ae,base,AM])) ?_
   rintro ⟨k,a,g2⟩ m2 ⟨hk3,Fe,CY,Ff⟩ Fi;simp only at hk3 Fe CY Ff;cases d1:decide (0<(k:Int))
   · simp only[go_sem,d1];refine Bc ?_;simp only[go_sem];refine ⟨a,g2,by omega,CY,Ff,?_⟩;first | exact ⟨rfl,rfl⟩ | rfl | simp
   cases d2:decide (2<(b:Int))
   · simp only[go_sem,d1,d2];refine Bc ?_;simp only[go_sem];refine ⟨a,g2,by omega,CY,Ff,?_⟩;first | exact ⟨rfl,rfl⟩ | rfl | simp
   have hkp:1≤k:=by have:=of_decide_eq_true d1;omega
   obtain ⟨k,rfl⟩:∃j,k=j+1:=⟨k - 1,by omega⟩;have D5:=Fy k (by omega);have hb3:2<b:=by have:=of_decide_eq_true d2;omega
   have hbz:(0:Int)<(b:Int):=by omega
   obtain ⟨ii,hii,Ax2⟩:=Bb l a b hbz;obtain ⟨jj,hjj,Ax1⟩:=Bb l (a+1) b hbz;have Ie:(0:Int)≤(ii:Int)∧(ii:Int)<(b:Int):=by omega
   have Gl:=DH g2 ii (by omega);have hRl:=(Ff ii (by omega)).2.2.1;simp only[go_sem,d1,d2];refine Au ((Bo l a b (by omega) (AX _ (by omega) (by omega)))) ?_;rintro h' r ⟨rfl,rfl⟩;simp only[go_sem,Br,hii];refine Au ((Bo l (a+1) b (by omega) (AX _ (by omega) (by omega)))) ?_;rintro h' r ⟨rfl,rfl⟩;simp only[go_sem,Br,hjj];refine Au ((Bo l (a+1+1) 3 (by omega) (AX _ (by omega) (by omega)))) ?_;rintro h' r ⟨rfl,rfl⟩;simp only[go_sem,Br];have RA:(((ii:Int)+2)).tmod (b:Int)=(((ii+2) % b:Nat):Int):=by
     rw[show (ii:Int)+2=((ii+2:Nat):Int) by omega,Int.tmod_eq_emod_of_nonneg (by omega)];exact (Int.natCast_emod _ _).symm
   have TR:IntKind.i64.wrap ((ii:Int)+2)=(ii:Int)+2:=by rw[An]<;>omega
   have Ahn:¬(b:Int)=0:=by omega
   have Qg:(ii+2) % b<b:=Nat.mod_lt _ (by omega);cases d3:decide (0<Kx l (a+1+1) 3)
   · skip
     have hJ0:(0:Int)≤((jj:Nat):Int)∧((jj:Nat):Int)<(b:Int):=by omega
     cases d4:decide ((ii:Int)=((jj:Nat):Int));rotate_left
     · simp only[go_sem,d3,D5,d4,D5];refine Fi (k,a+1+1+1,g2) _ ⟨by simp only;omega,by simp only;omega,CY,Ff⟩ (by simp only;omega) ?_
       (refine Wk.forget ?_;simp[Le,AG,Av,get,Aa,Ac,Ad,D.ids,Ai,AO.ids,Ae,base];done)
     simp only[go_sem,d3,D5,d4,Aw,CY,Int.toNat_natCast,Gl,Ie];refine Au ((KT (g2.getD ii []) ((jj:Nat):Int) (by omega))) ?_;rintro h' r ⟨rfl,rfl⟩;cases d5:decide (((jj:Nat):Int)∈g2.getD ii []);rotate_left
     · simp only[go_sem,d5,D5];refine Fi (k,a+1+1+1,g2) _ ⟨by simp only;omega,by simp only;omega,CY,Ff⟩ (by simp only;omega) ?_
       (refine Wk.forget ?_;simp[Le,AG,Av,get,Aa,Ac,Ad,D.ids,Ai,AO.ids,Ae,base];done)
     cases d6:decide (((g2.getD ii []).length:Int)<4)
     · simp only[go_sem,d5,Aw,Ab,CY,Int.toNat_natCast,Gl,Ie,d6,D5];refine Fi (k,a+1+1+1,g2) _ ⟨by simp only;omega,by simp only;omega,CY,Ff⟩ (by simp only;omega) ?_
       (refine Wk.forget ?_;simp[Le,AG,Av,get,Aa,Ac,Ad,D.ids,Ai,AO.ids,Ae,base];done)
     simp only[go_sem,d5,Aw,Ab,CY,Int.toNat_natCast,Gl,Ie,d6];refine AY mixed (p:=[(0,0),(1,0),(2,0),(3,0),(4,0),(5,0),(6,0),(7,0),(8,0),(9,0),(10,0),(11,0),(12,0),(13,2),(14,0),(15,3)]) (by kernel_rfl) (by simp[Av,get]) ?_;simp only[go_sem,Aw,Ab,CY,Int.toNat_natCast,Gl,Ie];refine Bu ((Ls (g2.getD ii []) ((jj:Nat):Int) (by omega))) ?_;rintro h' r ⟨rfl,rfl⟩;simp only[go_sem,Aw,CY,Int.toNat_natCast,Ie,D5];refine Fi (k,a+1+1+1,g2.set ii (IE (g2.getD ii []) ((jj:Nat):Int))) _ ⟨by simp only;omega,by simp only;omega,by simpa using CY,fun u hu=>?_⟩ (by simp only;omega) ?_
     · rw[Cm];by_cases e:ii=u
       · subst e;rw[if_pos ⟨rfl,by omega⟩];exact (Ff ii hu).ins hJ0.1 hJ0.2 (fun h=>of_decide_eq_false d4 h.symm) (of_decide_eq_false d5) (by have:=of_decide_eq_true d6;omega)
       · rw[if_neg (fun h=>e h.1)];exact Ff u hu
     · (refine Wk.forget ?_;simp[Le,AG,Av,get,Aa,Ac,Ad,D.ids,Ai,AO.ids,Ae,base,K5,IW];done)
   · generalize (ii+2) % b=J at RA Qg;have hJ0:(0:Int)≤((J:Nat):Int)∧((J:Nat):Int)<(b:Int):=by omega
     cases d4:decide ((ii:Int)=((J:Nat):Int));rotate_left
     · simp only[go_sem,d3,TR,RA,Ahn,d4,D5];refine Fi (k,a+1+1+1,g2) _ ⟨by simp only;omega,by simp only;omega,CY,Ff⟩ (by simp only;omega) ?_
       (refine Wk.forget ?_;simp[Le,AG,Av,get,Aa,Ac,Ad,D.ids,Ai,AO.ids,Ae,base];done)
     simp only[go_sem,d3,TR,RA,Ahn,d4,Aw,CY,Int.toNat_natCast,Gl,Ie];refine Au ((KT (g2.getD ii []) ((J:Nat):Int) (by omega))) ?_;rintro h' r ⟨rfl,rfl⟩;cases d5:decide (((J:Nat):Int)∈g2.getD ii []);rotate_left
     · simp only[go_sem,d5,D5];refine Fi (k,a+1+1+1,g2) _ ⟨by simp only;omega,by simp only;omega,CY,Ff⟩ (by simp only;omega) ?_
       (refine Wk.forget ?_;simp[Le,AG,Av,get,Aa,Ac,Ad,D.ids,Ai,AO.ids,Ae,base];done)
     cases d6:decide (((g2.getD ii []).length:Int)<4)
     · simp only[go_sem,d5,Aw,Ab,CY,Int.toNat_natCast,Gl,Ie,d6,D5];refine Fi (k,a+1+1+1,g2) _ ⟨by simp only;omega,by simp only;omega,CY,Ff⟩ (by simp only;omega) ?_
       (refine Wk.forget ?_;simp[Le,AG,Av,get,Aa,Ac,Ad,D.ids,Ai,AO.ids,Ae,base];done)
     simp only[go_sem,d5,Aw,Ab,CY,Int.toNat_natCast,Gl,Ie,d6];refine AY mixed (p:=[(0,0),(1,0),(2,0),(3,0),(4,0),(5,0),(6,0),(7,0),(8,0),(9,0),(10,0),(11,0),(12,0),(13,2),(14,0),(15,3)]) (by kernel_rfl) (by simp[Av,get]) ?_;simp only[go_sem,Aw,Ab,CY,Int.toNat_natCast,Gl,Ie];refine Bu ((Ls (g2.getD ii []) ((J:Nat):Int) (by omega))) ?_;rintro h' r ⟨rfl,rfl⟩;simp only[go_sem,Aw,CY,Int.toNat_natCast,Ie,D5];refine Fi (k,a+1+1+1,g2.set ii (IE (g2.getD ii []) ((J:Nat):Int))) _ ⟨by simp only;omega,by simp only;omega,by simpa using CY,fun u hu=>?_⟩ (by simp only;omega) ?_
     · rw[Cm];by_cases e:ii=u
       · subst e;rw[if_pos ⟨rfl,by omega⟩];exact (Ff ii hu).ins hJ0.1 hJ0.2 (fun h=>of_decide_eq_false d4 h.symm) (of_decide_eq_false d5) (by have:=of_decide_eq_true d6;omega)
       · rw[if_neg (fun h=>e h.1)];exact Ff u hu
     · (refine Wk.forget ?_;simp[Le,AG,Av,get,Aa,Ac,Ad,D.ids,Ai,AO.ids,Ae,base,K5,IW];done)
def ZN (i:Nat):List UInt8:=if i<10 then [UInt8.ofNat (48+i)] else [UInt8.ofNat (48+i / 10),UInt8.ofNat (48+i % 10)]
theorem Ajw (i:Nat) (h:i<100):FO i=ZN i:=by
 unfold ZN;by_cases h1:i<10
 · rw[if_pos h1,EA i h1]
 · rw[if_neg h1,K6 i h1,EA (i / 10) (by omega)];rfl
theorem Ajv:∀i,i<24→∀j,j<24→ZN i=ZN j→i=j:=by decide
theorem Am3:∀i,i<24→Bs (98::ZN i)=true:=by decide
theorem Am2:∀i,i<24→Bs (115::ZN i)=true:=by decide
structure Akr (n:Nt):Prop where
 nb:1≤n.blocks.length∧n.blocks.length≤10
 bl:∀i,i<n.blocks.length→(n.blocks.getD i C1).name=98::FO i∧Yg (n.blocks.getD i C1)
 nl:n.next.length=n.blocks.length
 nx:∀i,i<n.blocks.length→RP n.blocks.length i (n.next.getD i [])
 ns:3≤n.spurs.length∧n.spurs.length≤5
 sp:∀i,i<n.spurs.length→(n.spurs.getD i AP).name=115::FO i∧(i=0→(n.spurs.getD i AP).A1=true)∧(i=1∨i=2→(n.spurs.getD i AP).A1=false)
 ss:Ch n.blocks.length n.spurs
 rl:n.Al.length≤3
 rb:CJ n.spurs n.Al
 cf:JD n.cq n.ca n.cd n.cp
theorem YZ {n:Nt} (i:Nat) (hi:i<(BJ n).length):(BJ n).getD i []=if i<n.blocks.length then (n.blocks.getD i C1).name else (n.spurs.getD (i - n.blocks.length) AP).name:=by
 have hl:(BJ n).length=n.blocks.length+n.spurs.length:=by simp[BJ]
 have C0:i<n.blocks.length+n.spurs.length:=by omega
 rw[getD_eq hi];unfold BJ at hi ⊢;by_cases h:i<n.blocks.length
 · rw[if_pos h,List.getElem_append_left (by simpa using h),List.getElem_map,getD_eq h]
 · rw[if_neg h,List.getElem_append_right (by simpa using h),List.getElem_map,getD_eq (show i - n.blocks.length<n.spurs.length by omega)];simp
theorem Akr.valid {n:Nt} (h:Akr n):validN n:=by
 obtain ⟨nb,bl,nl,nx,ns,sp,ss,rl,rb,cf⟩:=h;refine ⟨⟨nb.1,by omega,nl,fun i hi=>⟨(bl i hi).2,(nx i hi).2.2.1,(nx i hi).row⟩⟩,by omega,fun i hi=>?_,by omega,cf,ss,rb,?_⟩
 · have hl:(BJ n).length=n.blocks.length+n.spurs.length:=by simp[BJ]
   have key:∀j,j<(BJ n).length→∃c d,(BJ n).getD j []=c::ZN d∧d<24∧((j<n.blocks.length∧c=98∧d=j)∨(n.blocks.length≤j∧c=115∧d=j - n.blocks.length)):=by
     intro j hj;rw[YZ j hj];by_cases h1:j<n.blocks.length
     · rw[if_pos h1,(bl j h1).1,Ajw j (by omega)];exact ⟨98,j,rfl,by omega,.inl ⟨h1,rfl,rfl⟩⟩
     · rw[if_neg h1,(sp (j - n.blocks.length) (by omega)).1,Ajw _ (by omega)];exact ⟨115,j - n.blocks.length,rfl,by omega,.inr ⟨by omega,rfl,rfl⟩⟩
   obtain ⟨c,d,h1,h2,h3⟩:=key i hi;refine ⟨?_,fun k hk=>?_⟩
   · rw[h1];rcases h3 with ⟨_,rfl,_⟩ | ⟨_,rfl,_⟩
     · exact Am3 d h2
     · exact Am2 d h2
   · obtain ⟨c2,d2,h4,h5,h6⟩:=key k (by omega);rw[h1,h4];intro he;rw[List.cons.injEq] at he;have hd:=Ajv d h2 d2 h5 he.2;rcases h3 with ⟨_,rfl,rfl⟩ | ⟨_,rfl,rfl⟩<;>rcases h6 with ⟨_,rfl,rfl⟩ | ⟨_,rfl,rfl⟩
     · omega
     · exact absurd he.1 (by decide)
     · exact absurd he.1 (by decide)
     · omega
 · have h0:=(sp 0 (by omega)).2.1 rfl;rw[List.length_filter_pos_iff];exact ⟨_,A7 n.spurs 0 AP (by omega),h0⟩
theorem FL {α:Type} (l:List α) (x y:α) (i:Nat):(l++[x]).getD i y=if i<l.length then l.getD i y else if i=l.length then x else y:=by
 simp only[List.getD];by_cases h:i<l.length
 · rw[if_pos h,List.getElem?_append_left h]
 · rw[if_neg h,List.getElem?_append_right (by omega)];by_cases h2:i=l.length
   · rw[if_pos h2,h2];simp
   · rw[if_neg h2];have:1≤i - l.length:=by omega
     obtain ⟨m,hm⟩:∃m,i - l.length=m+1:=⟨i - l.length - 1,by omega⟩;rw[hm];simp
def Ar3 (bl:List JN):Prop:=∀i,i<bl.length→(bl.getD i C1).name=98::FO i∧Yg (bl.getD i C1)
theorem Aej {bl:List JN} (h:Ar3 bl) (x y:Int) (hx:-4≤x∧x≤4) (hy:-4≤y∧y≤4):Ar3 (bl++[⟨98::FO bl.length,x,y⟩]):=by
 intro i hi;rw[FL];by_cases h1:i<bl.length
 · rw[if_pos h1];exact h i h1
 · have h2:i=bl.length:=by simp at hi;omega
   rw[if_neg h1,if_pos h2,h2];exact ⟨rfl,by unfold Yg;simp only;omega⟩
def Wp (nb:Nat) (l:List BY):Prop:=∀i,i<l.length→(l.getD i AP).name=115::FO i∧(i=0→(l.getD i AP).A1=true)∧(i=1∨i=2→(l.getD i AP).A1=false)∧JQ nb (nb+BV (l.take i)) (l.getD i AP)
theorem GQ {sp:List BY} {rb:List Int} {x:Int} (h:CJ sp rb) (h1:sp.any (Lt x)=true) (h2:x∉rb):CJ sp (rb++[x]):=by
 intro i hi;rw[FL];by_cases h3:i<rb.length
 · rw[if_pos h3,List.take_append_of_le_length (by omega)];exact h i h3
 · have h4:i=rb.length:=by simp at hi;omega
   subst h4;rw[if_neg h3,if_pos rfl,List.take_left' rfl];exact ⟨h1,h2⟩
theorem Wp.spurs {nb:Nat} {l:List BY} (h:Wp nb l):Ch nb l:=fun i hi=>(h i hi).2.2.2
theorem Wp.rng {nb:Nat} {l:List BY} (h:Wp nb l):0≤BV l∧BV l≤4*l.length:=Nk h.spurs
theorem Wp.snoc {nb:Nat} {l:List BY} (h:Wp nb l) (dp:Bool) (x y z:Int) (hx:0≤x∧x<(nb:Int)) (hy:0≤y∧y<(nb:Int)) (hz:1≤z∧z≤4) (h0:l.length=0→dp=true) (h1:l.length=1∨l.length=2→dp=false):
   Wp nb (l++[⟨115::FO l.length,dp,x,y,z,(nb:Int)+BV l⟩]):=by
 intro i hi;rw[FL];by_cases h2:i<l.length
 · rw[if_pos h2,List.take_append_of_le_length (by omega)];exact h i h2
 · have h3:i=l.length:=by simp at hi;omega
   subst h3;rw[if_neg h2,if_pos rfl,List.take_left' rfl];exact ⟨rfl,h0,h1,hx.1,hx.2,hy.1,hy.2,hz.1,hz.2,rfl⟩
def Nt.os (n:Nt):List D:=[.ref 0 0 n.blocks.length n.blocks.length,.ref 1 0 n.next.length n.next.length,.ref 2 0 n.spurs.length n.spurs.length,.ref 3 0 n.Al.length n.Al.length,.p (.int .i64 n.cq),.p (.int .i64 n.ca),.p (.int .i64 n.cd),.p (.int .i64 n.cp)]
theorem Agd (R:Nt→Int→Prop) (hR:∀n:Nt,validN n→Aj Tryz.prog 21 [.agg n.cs] [] fun h r=>h=[]∧∃(o:List Int) (sl cap:Int),r= .BA [.agg [.p (.int .i64 (o.length:Nat)),.p (.sl (Ag o)),.p (.int .i64 sl),.p (.int .i64 cap)],.p (.int .i64 0)]∧cap≤sl∧sl=slotsV (List.replicate (cellsV n).toNat false) n.spurs∧R n cap)
   (l:List Int) (at_ Mx:Nat) (G4:at_<100000) (Qw:1≤Mx) (Qg:Mx≤10):
   Aj Tryz.prog 24 [.ptr 1000000 0,.p (.int .i64 (Mx:Nat))] [(1000000,.box (Br l at_))]
     fun h r=>∃at2 n,at2≤at_+200∧(Akr n∧∃cap,R {n with Al:=[]} cap∧(n.Al.length=0∨(n.Al.length:Int)≤cap))∧h=[(1000000,.box (Br l at2)),(0,.arr 76 3 (Bi n.blocks)),(1,.arr 22 1 (AM n.next)),(2,.arr 68 6 (Bh n.spurs)),(3,.arr 3 1 (Ag n.Al))]∧r= .agg n.os:=by
 refine Ak Tryz.func24 rfl Ajg (by simp[Tryz.f24]) ?_;simp only[go_sem,Br];refine Au ((Bo l at_ Mx (by omega) (AX _ (by omega) (by omega)))) ?_;rintro h' r ⟨rfl,rfl⟩;obtain ⟨k0,Ex,OZ⟩:=Bb l at_ Mx (by omega);have Asu:IntKind.i64.wrap (1+(k0:Int))=((k0+1:Nat):Int):=by rw[An]<;>omega
 simp only[go_sem,Br,Ex,Asu];refine Ao (fun q:Nat×Nat×List JN=>⟨[(0,.ptr 1000000 0),(4,.ptr 4 0),(5,.ptr 5 0),(6,.p (.int .i64 (q.1:Nat)))],
     [(1000000,.box [.p (.sl (Ag l)),.p (.int .i64 (q.2.1:Nat))]),(4,.box [.cl [],.cl [],.cl [],.cl [],.p (.int .i64 0),.p (.int .i64 0),.p (.int .i64 0),.p (.int .i64 0)]),
      (5,.box [.ref 43 0 q.2.2.length q.2.2.length,.ref 48 0 q.2.2.length q.2.2.length,.cl [],.cl [],.p (.int .i64 0),.p (.int .i64 0),.p (.int .i64 0),.p (.int .i64 0)]),(43,.arr 76 3 (Bi q.2.2)),(48,.arr 22 1 (AM (List.replicate q.2.2.length [])))],191⟩)
   (fun q=>q.1+q.2.2.length=k0+1∧q.2.1=at_+1+2*q.2.2.length∧Ar3 q.2.2) (fun q=>q.1) (k0+1,at_+1,[]) ⟨by simp,by simp,fun i hi=>by simp at hi⟩
   ((Wk.E3 (id:=5) (j:=0) (q:=43) (sz:=3) 76 rfl rfl rfl (by decide)).trans ((Wk.E3 (id:=5) (j:=1) (q:=48) (sz:=1) 22 rfl rfl rfl (by decide)).trans (Wk.forget (by simp[Le,AG,Av,get,Aa,Ac,Ad,D.ids,Ai,AO.ids,Ae,base,Bi,AM])))) ?_
 rintro ⟨k,a,bl⟩ m ⟨hk,ha,hbl⟩ ih;simp only at hk ha hbl;cases c1:decide (0<(k:Int));rotate_left
 · obtain ⟨k,rfl⟩:∃j,k=j+1:=⟨k - 1,by have:=of_decide_eq_true c1;omega⟩;have D5:=Fy k (by omega);obtain ⟨x,hx,hx9⟩:=Bb l a 9 (by omega);obtain ⟨y,hy,hy9⟩:=Bb l (a+1) 9 (by omega);have hwx:IntKind.i64.wrap ((x:Int) - 4)=(x:Int) - 4:=by rw[An]<;>omega
   have hwy:IntKind.i64.wrap ((y:Int) - 4)=(y:Int) - 4:=by rw[An]<;>omega
   have VX:=HD 15 bl.length (by omega);simp only[go_sem,c1,Ay];refine BB [(5,.box [.ref 43 0 bl.length bl.length,.ref 48 0 bl.length bl.length,.cl [],.cl [],.p (.int .i64 0),.p (.int .i64 0),.p (.int .i64 0),.p (.int .i64 0)])] mixed (p:=[(0,0),(1,0),(2,0),(5,0),(8,0),(3,2),(4,0),(6,2),(7,0),(9,2),(10,0),(11,0),(12,1),(13,2),(14,0),(15,3)]) (by kernel_rfl) (by simp[Av,get]) ?_;simp only[go_sem];refine Bu ((G7 bl.length (by omega))) ?_;rintro h' r ⟨rfl,rfl⟩;simp only[go_sem];refine ⟨by unfold maxLen;omega,?_⟩;refine Bu ((Bo l a 9 (by omega) (AX _ (by omega) (by omega)))) ?_;rintro h' r ⟨rfl,rfl⟩;simp only[go_sem,Br,hx,hwx];refine Bu ((Bo l (a+1) 9 (by omega) (AX _ (by omega) (by omega)))) ?_;rintro h' r ⟨rfl,rfl⟩;simp only[go_sem,Br,hy,hwy,Ay];refine ⟨⟨Cf _ _ rfl,by omega⟩,?_⟩;try simp only[go_sem]
   refine Al6 rfl Afb Alg rfl rfl ?_;simp only[go_sem,Aw,List.length_replicate];refine ⟨⟨Cf _ _ rfl,by omega⟩,?_⟩;simp only[go_sem,D5];refine ih (k,a+1+1,bl++[⟨98::FO bl.length,(x:Int) - 4,(y:Int) - 4⟩]) _ ⟨by simp;omega,by simp;omega,Aej hbl _ _ (by omega) (by omega)⟩ (by simp only;omega) ?_
   (refine Wk.forget ?_;simp[Le,AG,Av,get,Aa,Ac,Ad,D.ids,Ai,AO.ids,Ae,base,Uh,Ay,AM,Ag,List.replicate_succ'];done)
 have hkz:k=0:=by have:=of_decide_eq_false c1;omega
 subst hkz;have hnb:bl.length=k0+1:=by omega
 clear ih Asu;simp only[go_sem,c1,Ay];refine Au (Aln l a bl.length bl (List.replicate bl.length []) (by omega) (by omega) (by omega) rfl (by simp) (fun i hi=>by simp[List.getD,hi])) ?_;rintro h' r ⟨a2,nx,ha2,J7,hnx,rfl,rfl⟩;have Awu:1≤bl.length∧bl.length≤10:=by omega
 have ha3:a2≤at_+100:=by omega
 clear hk ha hnb Ex OZ ha2;simp only[go_sem,Br,Ay];refine Au ((Bo l a2 3 (by omega) (AX _ (by omega) (by omega)))) ?_;rintro h' r ⟨rfl,rfl⟩;obtain ⟨k3,hk3,hk4⟩:=Bb l a2 3 (by omega);have Ast:IntKind.i64.wrap (3+(k3:Int))=((k3+3:Nat):Int):=by rw[An]<;>omega
 simp only[go_sem,Br,hk3,Ast];refine Ao (fun q:Nat×Nat×List BY=>⟨[(0,.ptr 1000000 0),(4,.ptr 4 0),(5,.ptr 5 0),(8,.p (.int .i64 ((bl.length:Int)+BV q.2.2))),(9,.p (.int .i64 (q.1:Nat)))],
     [(1000000,.box [.p (.sl (Ag l)),.p (.int .i64 (q.2.1:Nat))]),(4,.box [.cl [],.cl [],.cl [],.cl [],.p (.int .i64 0),.p (.int .i64 0),.p (.int .i64 0),.p (.int .i64 0)]),
      (5,.box [.ref 43 0 bl.length bl.length,.ref 48 0 bl.length bl.length,.ref 102 0 q.2.2.length q.2.2.length,.cl [],.p (.int .i64 0),.p (.int .i64 0),.p (.int .i64 0),.p (.int .i64 0)]),(43,.arr 76 3 (Bi bl)),(48,.arr 22 1 (AM nx)),(102,.arr 68 6 (Bh q.2.2))],191⟩)
   (fun q=>q.1+q.2.2.length=k3+3∧q.2.1≤a2+1+4*q.2.2.length∧Wp bl.length q.2.2) (fun q=>q.1) (k3+3,a2+1,[]) ⟨by simp,by simp,fun i hi=>by simp at hi⟩
   ((Wk.E3 (id:=5) (j:=2) (q:=102) (sz:=6) 68 rfl rfl rfl (by decide)).trans (Wk.forget (by simp[Le,AG,Av,get,Aa,Ac,Ad,D.ids,Ai,AO.ids,Ae,base,Bh,BV]))) ?_
 rintro ⟨k,a,sp⟩ m2 ⟨hk,ha,EI⟩ ih;simp only at hk ha EI;have hsr:=EI.rng;cases c2:decide (0<(k:Int));rotate_left
 · obtain ⟨k,rfl⟩:∃j,k=j+1:=⟨k - 1,by have:=of_decide_eq_true c2;omega⟩;have D5:=Fy k (by omega);have VX:=HD 15 sp.length (by omega);have hbz:(0:Int)<(bl.length:Int):=by omega
   by_cases Bm:sp.length=0
   · have HP:((sp.length:Nat):Int)=0:=by omega
     have hd:decide (((sp.length:Nat):Int)=0)=true:=decide_eq_true HP;simp only[go_sem,c2,Ax];refine BB [(5,.box [.ref 43 0 bl.length bl.length,.ref 48 0 bl.length bl.length,.ref 102 0 sp.length sp.length,.cl [],.p (.int .i64 0),.p (.int .i64 0),.p (.int .i64 0),.p (.int .i64 0)]),(43,.arr 76 3 (Bi bl))] mixed (p:=[(0,0),(3,0),(4,0),(14,0),(15,0),(16,0),(17,0),(19,0),(20,0),(21,0),(22,0),(24,0),(27,0),(29,1),(1,2),(2,0),(5,0),(6,0),(7,0),(8,0),(9,0),(10,2),(11,0),(12,0),(13,0),(18,2),(23,2),(25,2),(26,0),(28,0),(30,3)]) (by kernel_rfl) (by simp[Av,get]) ?_;simp only[go_sem,hd,Ay];refine Bu ((G7 sp.length (by omega))) ?_;rintro h' r ⟨rfl,rfl⟩;simp only[go_sem,hd,Ay];refine ⟨by unfold maxLen;omega,?_⟩;obtain ⟨x,hx,hxb⟩:=Bb l a bl.length hbz;obtain ⟨y,hy,hyb⟩:=Bb l (a+1) bl.length hbz;obtain ⟨z,hz,hzb⟩:=Bb l (a+1+1) 3 (by omega);have hwz:IntKind.i64.wrap (1+(z:Int))=1+(z:Int):=by rw[An]<;>omega
     have VW:IntKind.i64.wrap ((bl.length:Int)+BV sp+(1+(z:Int)))=(bl.length:Int)+BV sp+(1+(z:Int)):=by rw[An]<;>omega
     refine Bu ((Bo l a bl.length (by omega) (AX _ (by omega) (by omega)))) ?_;rintro h' r ⟨rfl,rfl⟩;simp only[go_sem,Br,hx];refine Bu ((Bo l (a+1) bl.length (by omega) (AX _ (by omega) (by omega)))) ?_;rintro h' r ⟨rfl,rfl⟩;simp only[go_sem,Br,hy];refine Bu ((Bo l (a+1+1) 3 (by omega) (AX _ (by omega) (by omega)))) ?_;rintro h' r ⟨rfl,rfl⟩;simp only[go_sem,Br,hz,hwz,VW,Ax];refine ⟨⟨Cf _ _ rfl,by omega⟩,?_⟩;simp only[go_sem,D5];refine ih (k,a+1+1+1,sp++[⟨115::FO sp.length,true,(x:Int),(y:Int),1+(z:Int),(bl.length:Int)+BV sp⟩]) _ ⟨by simp;omega,by simp;omega,EI.snoc _ _ _ _ (by omega) (by omega) (by omega) (fun _=>rfl) (fun h=>by omega)⟩ (by simp only;omega) ?_
     (refine Wk.forget ?_;simp[Le,AG,Av,get,Aa,Ac,Ad,D.ids,Ai,AO.ids,Ae,base,LC,Ax,Cx,Int.add_assoc];done)
   by_cases C0:sp.length≤2
   · have hd:decide (((sp.length:Nat):Int)=0)=false:=decide_eq_false (by omega);have Hw:decide (2<((sp.length:Nat):Int))=false:=decide_eq_false (by omega);simp only[go_sem,c2,Ax];refine BB [(5,.box [.ref 43 0 bl.length bl.length,.ref 48 0 bl.length bl.length,.ref 102 0 sp.length sp.length,.cl [],.p (.int .i64 0),.p (.int .i64 0),.p (.int .i64 0),.p (.int .i64 0)]),(43,.arr 76 3 (Bi bl))] mixed (p:=[(0,0),(3,0),(4,0),(14,0),(15,0),(16,0),(17,0),(19,0),(20,0),(21,0),(22,0),(24,0),(27,0),(29,1),(1,2),(2,0),(5,0),(6,0),(7,0),(8,0),(9,0),(10,2),(11,0),(12,0),(13,0),(18,2),(23,2),(25,2),(26,0),(28,0),(30,3)]) (by kernel_rfl) (by simp[Av,get]) ?_;simp only[go_sem,hd,Hw,Ay];refine Bu ((G7 sp.length (by omega))) ?_;rintro h' r ⟨rfl,rfl⟩;simp only[go_sem,hd,Hw,Ay];refine ⟨by unfold maxLen;omega,?_⟩;obtain ⟨x,hx,hxb⟩:=Bb l a bl.length hbz;obtain ⟨y,hy,hyb⟩:=Bb l (a+1) bl.length hbz;obtain ⟨z,hz,hzb⟩:=Bb l (a+1+1) 3 (by omega);have hwz:IntKind.i64.wrap (1+(z:Int))=1+(z:Int):=by rw[An]<;>omega
     have VW:IntKind.i64.wrap ((bl.length:Int)+BV sp+(1+(z:Int)))=(bl.length:Int)+BV sp+(1+(z:Int)):=by rw[An]<;>omega
     refine Bu ((Bo l a bl.length (by omega) (AX _ (by omega) (by omega)))) ?_;rintro h' r ⟨rfl,rfl⟩;simp only[go_sem,Br,hx];refine Bu ((Bo l (a+1) bl.length (by omega) (AX _ (by omega) (by omega)))) ?_;rintro h' r ⟨rfl,rfl⟩;simp only[go_sem,Br,hy];refine Bu ((Bo l (a+1+1) 3 (by omega) (AX _ (by omega) (by omega)))) ?_;rintro h' r ⟨rfl,rfl⟩;simp only[go_sem,Br,hz,hwz,VW,Ax];refine ⟨⟨Cf _ _ rfl,by omega⟩,?_⟩;simp only[go_sem,D5];refine ih (k,a+1+1+1,sp++[⟨115::FO sp.length,false,(x:Int),(y:Int),1+(z:Int),(bl.length:Int)+BV sp⟩]) _ ⟨by simp;omega,by simp;omega,EI.snoc _ _ _ _ (by omega) (by omega) (by omega) (fun h=>by omega) (fun _=>rfl)⟩ (by simp only;omega) ?_
     (refine Wk.forget ?_;simp[Le,AG,Av,get,Aa,Ac,Ad,D.ids,Ai,AO.ids,Ae,base,LC,Ax,Cx,Int.add_assoc];done)
   · have hd:decide (((sp.length:Nat):Int)=0)=false:=decide_eq_false (by omega);have Hw:decide (2<((sp.length:Nat):Int))=true:=decide_eq_true (by omega);simp only[go_sem,c2,Ax];refine BB [(5,.box [.ref 43 0 bl.length bl.length,.ref 48 0 bl.length bl.length,.ref 102 0 sp.length sp.length,.cl [],.p (.int .i64 0),.p (.int .i64 0),.p (.int .i64 0),.p (.int .i64 0)]),(43,.arr 76 3 (Bi bl))] mixed (p:=[(0,0),(3,0),(4,0),(14,0),(15,0),(16,0),(17,0),(19,0),(20,0),(21,0),(22,0),(24,0),(27,0),(29,1),(1,2),(2,0),(5,0),(6,0),(7,0),(8,0),(9,0),(10,2),(11,0),(12,0),(13,0),(18,2),(23,2),(25,2),(26,0),(28,0),(30,3)]) (by kernel_rfl) (by simp[Av,get]) ?_;simp only[go_sem,hd,Hw,Ay];refine Bu ((G7 sp.length (by omega))) ?_;rintro h' r ⟨rfl,rfl⟩;simp only[go_sem,hd,Hw,Ay];refine ⟨by unfold maxLen;omega,?_⟩;refine Bu ((Bo l a 2 (by omega) (AX _ (by omega) (by omega)))) ?_;rintro h' r ⟨rfl,rfl⟩;simp only[go_sem,Br,hd,Hw];obtain ⟨x,hx,hxb⟩:=Bb l (a+1) bl.length hbz;obtain ⟨y,hy,hyb⟩:=Bb l ((a+1)+1) bl.length hbz;obtain ⟨z,hz,hzb⟩:=Bb l ((a+1)+1+1) 3 (by omega);have hwz:IntKind.i64.wrap (1+(z:Int))=1+(z:Int):=by rw[An]<;>omega
     have VW:IntKind.i64.wrap ((bl.length:Int)+BV sp+(1+(z:Int)))=(bl.length:Int)+BV sp+(1+(z:Int)):=by rw[An]<;>omega
     refine Bu ((Bo l (a+1) bl.length (by omega) (AX _ (by omega) (by omega)))) ?_;rintro h' r ⟨rfl,rfl⟩;simp only[go_sem,Br,hx];refine Bu ((Bo l ((a+1)+1) bl.length (by omega) (AX _ (by omega) (by omega)))) ?_;rintro h' r ⟨rfl,rfl⟩;simp only[go_sem,Br,hy];refine Bu ((Bo l ((a+1)+1+1) 3 (by omega) (AX _ (by omega) (by omega)))) ?_;rintro h' r ⟨rfl,rfl⟩;simp only[go_sem,Br,hz,hwz,VW,Ax];refine ⟨⟨Cf _ _ rfl,by omega⟩,?_⟩;simp only[go_sem,D5];refine ih (k,(a+1)+1+1+1,sp++[⟨115::FO sp.length,(decide (Kx l a 2=0)),(x:Int),(y:Int),1+(z:Int),(bl.length:Int)+BV sp⟩]) _ ⟨by simp;omega,by simp;omega,EI.snoc _ _ _ _ (by omega) (by omega) (by omega) (fun h=>by omega) (fun h=>by omega)⟩ (by simp only;omega) ?_
     (refine Wk.forget ?_;simp[Le,AG,Av,get,Aa,Ac,Ad,D.ids,Ai,AO.ids,Ae,base,LC,Ax,Cx,Int.add_assoc];done)
 have Awy:k=0:=by have:=of_decide_eq_false c2;omega
 subst Awy;have hns:3≤sp.length∧sp.length≤5:=by omega
 have ha4:a≤at_+130:=by omega
 clear ih hk ha Ast hk3;obtain ⟨q1,Yq,Awn⟩:=Bb l a 4 (by omega);obtain ⟨q2,Yp,Aqc⟩:=Bb l (a+1) 3 (by omega);obtain ⟨q3,hq3,hq3b⟩:=Bb l (a+1+1) 3 (by omega);obtain ⟨q4,hq4,hq4b⟩:=Bb l (a+1+1+1) 8 (by omega);obtain ⟨q5,hq5,hq5b⟩:=Bb l (a+1+1+1+1) 3 (by omega);have NL:IntKind.i64.wrap (1+(q1:Int))=1+(q1:Int):=by rw[An]<;>omega
 have Zn:IntKind.i64.wrap (1+(q4:Int))=1+(q4:Int):=by rw[An]<;>omega
 have hw5:IntKind.i64.wrap (1+(q5:Int))=((q5+1:Nat):Int):=by rw[An]<;>omega
 have hP:∀rb:List Int,rb.length≤3→CJ sp rb→Akr ⟨bl,nx,sp,rb,1+q1,q2,q3,1+q4⟩:=fun rb D6 Fa=>
   ⟨Awu,hbl,J7,hnx,hns,fun i hi=>⟨(EI i hi).1,(EI i hi).2.1,(EI i hi).2.2.1⟩,EI.spurs,D6,Fa,by unfold JD;simp only;omega⟩
 have hF:Aj Tryz.prog 21 [.agg [.p (.sl (Bi bl)),.p (.sl (AM nx)),.p (.sl (Bh sp)),.p (.sl []),.p (.int .i64 (1+q1)),.p (.int .i64 q2),.p (.int .i64 q3),.p (.int .i64 (1+q4))]] [] _:=
   hR ⟨bl,nx,sp,[],1+q1,q2,q3,1+q4⟩ (hP [] (by simp) (fun i hi=>by simp at hi)).valid
 have e1:=Ug bl bl.length (Nat.le_refl _);have e2:=Adw nx bl.length (by omega);have e3:=Uf sp sp.length (Nat.le_refl _);simp only[go_sem,c2];refine Au ((Bo l a 4 (by omega) (AX _ (by omega) (by omega)))) ?_;rintro h' r ⟨rfl,rfl⟩;simp only[go_sem,Br,Yq,NL];refine Au ((Bo l (a+1) 3 (by omega) (AX _ (by omega) (by omega)))) ?_;rintro h' r ⟨rfl,rfl⟩;simp only[go_sem,Br,Yp];refine Au ((Bo l (a+1+1) 3 (by omega) (AX _ (by omega) (by omega)))) ?_;rintro h' r ⟨rfl,rfl⟩;simp only[go_sem,Br,hq3];refine Au ((Bo l (a+1+1+1) 8 (by omega) (AX _ (by omega) (by omega)))) ?_;rintro h' r ⟨rfl,rfl⟩;simp only[go_sem,Br,hq4,Zn,Ay,Aw,J7,Ax,e1,e2,e3];refine Ao2 rfl rfl hF (by simp[HI,P8,ev,get,Ay,Aw,J7,Ax,e1,e2,e3]) ?_;rintro h' r ⟨rfl,o,slv,cap,rfl,Hx,Awl,hRc⟩;refine ⟨rfl,?_⟩;simp only[go_sem];refine Au ((Bo l (a+1+1+1+1) 3 (by omega) (AX _ (by omega) (by omega)))) ?_;rintro h' r ⟨rfl,rfl⟩;simp only[go_sem,Br,hq5,hw5];refine Ao (fun q:Nat×Nat×List Int=>⟨[(0,.ptr 1000000 0),(4,.ptr 4 0),(5,.ptr 5 0),(12,.ptr 12 0),(14,.p (.int .i64 (q.1:Nat)))],
     [(1000000,.box [.p (.sl (Ag l)),.p (.int .i64 (q.2.1:Nat))]),(4,.box [.cl [],.cl [],.cl [],.cl [],.p (.int .i64 0),.p (.int .i64 0),.p (.int .i64 0),.p (.int .i64 0)]),
      (5,.box [.ref 43 0 bl.length bl.length,.ref 48 0 bl.length bl.length,.ref 102 0 sp.length sp.length,.ref 188 0 q.2.2.length q.2.2.length,.p (.int .i64 (1+q1)),.p (.int .i64 q2),.p (.int .i64 q3),.p (.int .i64 (1+q4))]),
      (12,.box [.p (.int .i64 (o.length:Nat)),.Pu,.p (.int .i64 slv),.p (.int .i64 cap)]),(43,.arr 76 3 (Bi bl)),(48,.arr 22 1 (AM nx)),(102,.arr 68 6 (Bh sp)),(188,.arr 3 1 (Ag q.2.2))],191⟩)
   (fun q=>q.1+q.2.2.length≤q5+1∧q.2.1+q.1≤a+10∧CJ sp q.2.2∧(q.2.2.length=0∨(q.2.2.length:Int)≤cap)) (fun q=>q.1) (q5+1,a+1+1+1+1+1,[]) ⟨by simp,by simp only;omega,fun i hi=>by simp at hi,.inl rfl⟩
   ((Wk.E3 (id:=5) (j:=3) (q:=188) (sz:=1) 3 rfl rfl rfl (by decide)).trans (Wk.forget (by simp[Le,AG,Av,get,Aa,Ac,Ad,D.ids,Ai,AO.ids,Ae,base,Ag]))) ?_
 rintro ⟨k,b,rb⟩ m3 ⟨hk,hb,SZ,hrc⟩ ih;simp only at hk hb SZ hrc;have e4:=EM rb rb.length (Nat.le_refl _);cases c3:decide (0<(k:Int))
 · simp only[go_sem,c3];refine Bc ?_;simp only[go_sem,Ay,Aw,J7,Ax,Ab];refine ⟨b,⟨bl,nx,sp,rb,1+q1,q2,q3,1+q4⟩,by omega,⟨hP rb (by omega) SZ,cap,hRc,hrc⟩,?_⟩;simp[Nt.os,Br,J7]
 cases c4:decide ((rb.length:Int)<cap)
 · simp only[go_sem,c3,c4,Ab];refine Bc ?_;simp only[go_sem,Ay,Aw,J7,Ax,Ab];refine ⟨b,⟨bl,nx,sp,rb,1+q1,q2,q3,1+q4⟩,by omega,⟨hP rb (by omega) SZ,cap,hRc,hrc⟩,?_⟩;simp[Nt.os,Br,J7]
 simp only[go_sem,c3,c4,Ab];have Yo:rb.length≤3:=by omega
 have hss:=EI.spurs;refine Ao (fun q:Nat×List Int=>⟨[(0,.ptr 1000000 0),(4,.ptr 4 0),(5,.ptr 5 0),(12,.ptr 12 0),(14,.p (.int .i64 (k:Nat))),(15,.ref 177 0 q.2.length q.2.length),(16,.p (.int .i64 (q.1:Nat)))],
     [(1000000,.box [.p (.sl (Ag l)),.p (.int .i64 (b:Nat))]),(4,.box [.cl [],.cl [],.cl [],.cl [],.p (.int .i64 0),.p (.int .i64 0),.p (.int .i64 0),.p (.int .i64 0)]),
      (5,.box [.ref 43 0 bl.length bl.length,.ref 48 0 bl.length bl.length,.ref 102 0 sp.length sp.length,.ref 188 0 rb.length rb.length,.p (.int .i64 (1+q1)),.p (.int .i64 q2),.p (.int .i64 q3),.p (.int .i64 (1+q4))]),
      (12,.box [.p (.int .i64 (o.length:Nat)),.Pu,.p (.int .i64 slv),.p (.int .i64 cap)]),(43,.arr 76 3 (Bi bl)),(48,.arr 22 1 (AM nx)),(102,.arr 68 6 (Bh sp)),(188,.arr 3 1 (Ag rb)),(177,.arr 3 1 (Ag q.2))],191⟩)
   (fun q=>q.1≤sp.length∧q.2.length≤4*q.1∧(∀x∈q.2,sp.any (Lt x)=true∧x∉rb)∧∀u,u<q.1→∀j:Nat,(sp.getD u AP).A1=true→(j:Int)<(sp.getD u AP).AH→(sp.getD u AP).base+(j:Int)∈rb∨(sp.getD u AP).base+(j:Int)∈q.2)
   (fun q=>sp.length - q.1) (0,[]) ⟨Nat.zero_le _,by simp,fun x hx=>by simp at hx,fun u hu=>absurd hu (Nat.not_lt_zero _)⟩
   ((Wk.nil (t:=15) (q:=177) (sz:=1) 3 rfl rfl (by decide)).trans (Wk.forget (by simp[Le,AG,Av,get,Aa,Ac,Ad,D.ids,Ai,AO.ids,Ae,base,Ag]))) ?_
 rintro ⟨i,fr⟩ m4 ⟨hi,M6,hfr,Aqn⟩ TM;simp only at hi M6 hfr Aqn;cases c5:decide ((i:Int)<(sp.length:Int));rotate_left
 · have hit:i<sp.length:=by have:=of_decide_eq_true c5;omega
   have TR:=As i (by omega);have Oq:=CG sp i hit;have Bm:(0:Int)≤(i:Int)∧(i:Int)<(sp.length:Int):=by omega
   have Di:=A7 sp i AP hit;obtain ⟨_,_,_,_,g5,g6,g7⟩:=hss i hit;obtain ⟨g8,g9,_⟩:=Kd hss hit;generalize Yl:sp.getD i AP=s at*;simp only[go_sem,c5,Ax];refine Ao (fun q:Nat×List Int=>⟨[(0,.ptr 1000000 0),(4,.ptr 4 0),(5,.ptr 5 0),(12,.ptr 12 0),(14,.p (.int .i64 (k:Nat))),(15,.ref 177 0 q.2.length q.2.length),(16,.p (.int .i64 (i:Nat))),(17,.p (.int .i64 (q.1:Nat)))],
       [(1000000,.box [.p (.sl (Ag l)),.p (.int .i64 (b:Nat))]),(4,.box [.cl [],.cl [],.cl [],.cl [],.p (.int .i64 0),.p (.int .i64 0),.p (.int .i64 0),.p (.int .i64 0)]),
      (5,.box [.ref 43 0 bl.length bl.length,.ref 48 0 bl.length bl.length,.ref 102 0 sp.length sp.length,.ref 188 0 rb.length rb.length,.p (.int .i64 (1+q1)),.p (.int .i64 q2),.p (.int .i64 q3),.p (.int .i64 (1+q4))]),
      (12,.box [.p (.int .i64 (o.length:Nat)),.Pu,.p (.int .i64 slv),.p (.int .i64 cap)]),(43,.arr 76 3 (Bi bl)),(48,.arr 22 1 (AM nx)),(102,.arr 68 6 (Bh sp)),(188,.arr 3 1 (Ag rb)),(177,.arr 3 1 (Ag q.2))],191⟩)
     (fun q=>q.1≤4∧(q.1:Int)≤s.AH∧q.2.length≤4*i+q.1∧(∀x∈q.2,sp.any (Lt x)=true∧x∉rb)∧(∀u,u<i→∀j:Nat,(sp.getD u AP).A1=true→(j:Int)<(sp.getD u AP).AH→(sp.getD u AP).base+(j:Int)∈rb∨(sp.getD u AP).base+(j:Int)∈q.2)∧∀j:Nat,j<q.1→s.base+(j:Int)∈rb∨s.base+(j:Int)∈q.2)
     (fun q=>4 - q.1) (0,fr) ⟨by simp,by simp only;omega,by simp only;omega,hfr,Aqn,fun j hj=>absurd hj (Nat.not_lt_zero _)⟩ (Wk.forget (by simp[Le,AG,Av,get,Aa,Ac,Ad,D.ids,Ai,AO.ids,Ae,base,Ag])) ?_
   rintro ⟨j,f2⟩ m5 ⟨hj4,hjs,Ax8,hf2,p9,hcj⟩ WW;simp only at hj4 hjs Ax8 hf2 p9 hcj;have W2:(¬((j:Int)<s.AH)∨s.A1=false)→∀u,u<i+1→∀j:Nat,(sp.getD u AP).A1=true→(j:Int)<(sp.getD u AP).AH→(sp.getD u AP).base+(j:Int)∈rb∨(sp.getD u AP).base+(j:Int)∈f2:=by
     intro hx u hu v hd hv;rcases Nat.lt_succ_iff_lt_or_eq.1 hu with h5 | rfl
     · exact p9 u h5 v hd hv
     · rw[Yl] at hd hv ⊢;rcases hx with hx | hx
       · exact hcj v (by omega)
       · rw[hx] at hd;cases hd
   cases c6:decide ((j:Int)<s.AH)
   · simp only[go_sem,Ax,Int.toNat_natCast,Oq,Bm,c6,TR];refine TM (i+1,f2) _ ⟨hit,by simp only;omega,hf2,W2 (.inl (of_decide_eq_false c6))⟩ (by simp only;omega) ?_
     (refine Wk.forget ?_;simp[Le,AG,Av,get,Aa,Ac,Ad,D.ids,Ai,AO.ids,Ae,base];done)
   cases c7:s.A1
   · simp only[go_sem,Ax,Int.toNat_natCast,Oq,Bm,c6,c7,TR];refine TM (i+1,f2) _ ⟨hit,by simp only;omega,hf2,W2 (.inr c7)⟩ (by simp only;omega) ?_
     (refine Wk.forget ?_;simp[Le,AG,Av,get,Aa,Ac,Ad,D.ids,Ai,AO.ids,Ae,base];done)
   have Oo:=of_decide_eq_true c6;have TQ:=As j (by omega);have hwx:IntKind.i64.wrap (s.base+(j:Int))=s.base+(j:Int):=by rw[An]<;>omega
   have NQ:sp.any (Lt (s.base+(j:Int)))=true:=by
     rw[List.any_eq_true];exact ⟨s,Di,by unfold Lt;rw[c7];simp;omega⟩
   simp only[go_sem,Ax,Int.toNat_natCast,Oq,Bm,c6,c7,hwx,Ab,e4];refine MW rfl rfl ?_;simp only[go_sem,HF];refine Sw (Amp rb (s.base+(j:Int)) (by omega)) ?_;rintro h' r ⟨rfl,rfl⟩;simp only[go_sem];cases c8:decide (s.base+(j:Int)∈rb);rotate_left
   · simp only[go_sem,c8,TQ];refine WW (j+1,f2) _ ⟨by simp only;omega,by simp only;omega,by simp only;omega,hf2,p9,fun v hv=>?_⟩ (by simp only;omega) ?_
     · rcases Nat.lt_succ_iff_lt_or_eq.1 hv with h5 | rfl
       · exact hcj v h5
       · exact .inl (of_decide_eq_true c8)
     · (refine Wk.forget ?_;simp[Le,AG,Av,get,Aa,Ac,Ad,D.ids,Ai,AO.ids,Ae,base];done)
   · simp only[go_sem,c8,Ab];refine ⟨⟨Cf _ _ rfl,by omega⟩,?_⟩;simp only[go_sem,TQ];refine WW (j+1,f2++[s.base+(j:Int)]) _ ⟨by simp only;omega,by simp only;omega,by simp;omega,fun x hx=>?_,fun u hu v hd hv=>?_,fun v hv=>?_⟩ (by simp only;omega) ?_
     · rcases List.mem_append.1 hx with hx | hx
       · exact hf2 x hx
       · rw[List.mem_singleton] at hx;subst hx;exact ⟨NQ,of_decide_eq_false c8⟩
     · rcases p9 u hu v hd hv with h5 | h5
       · exact .inl h5
       · exact .inr (List.mem_append_left _ h5)
     · rcases Nat.lt_succ_iff_lt_or_eq.1 hv with h5 | rfl
       · rcases hcj v h5 with h6 | h6
         · exact .inl h6
         · exact .inr (List.mem_append_left _ h6)
       · exact .inr (by simp)
     · (refine Wk.forget ?_;simp[Le,AG,Av,get,Aa,Ac,Ad,D.ids,Ai,AO.ids,Ae,base,Cq,Ab];done)
 have TW:i=sp.length:=by have:=of_decide_eq_false c5;omega
 subst TW;obtain ⟨s,hs,j,hd,hj,Aws⟩:=Ac5 hss _ (rb:=rb) (by have:=of_decide_eq_true c4;rw[Awl] at Hx;exact Int.lt_of_lt_of_le this Hx);obtain ⟨u,hu,rfl⟩:=List.mem_iff_getElem.1 hs;have Atq:0<fr.length:=by
   have h5:=Aqn u hu j (by rw[getD_eq hu];exact hd) (by rw[getD_eq hu];exact hj);rw[getD_eq hu] at h5;exact List.length_pos_of_mem (h5.resolve_left Aws)
 obtain ⟨v,hv,SX⟩:=Bb l b fr.length (by omega);have hkp:1≤k:=by have:=of_decide_eq_true c3;omega
 obtain ⟨k,rfl⟩:∃j,k=j+1:=⟨k - 1,by omega⟩;have D5:=Fy k (by omega);have hgv:=AD fr v (by omega);have Qv:(0:Int)≤(v:Int)∧(v:Int)<(fr.length:Int):=by omega
 have hx:=hfr _ (A7 fr v 0 (by omega));simp only[go_sem,c5,Ax];refine BB [(5,.box [.ref 43 0 bl.length bl.length,.ref 48 0 bl.length bl.length,.ref 102 0 sp.length sp.length,.ref 188 0 rb.length rb.length,.p (.int .i64 (1+q1)),.p (.int .i64 q2),.p (.int .i64 q3),.p (.int .i64 (1+q4))]),(177,.arr 3 1 (Ag fr))] mixed (p:=[(0,0),(1,0),(2,0),(3,0),(4,0),(5,0),(6,2),(7,0),(8,0),(9,1),(10,2),(11,0),(12,3)]) (by kernel_rfl) (by simp[Av,get]) ?_;simp only[go_sem,Ab];refine Bu ((Bo l b fr.length (by omega) (AX _ (by omega) (by omega)))) ?_;rintro h' r ⟨rfl,rfl⟩;simp only[go_sem,Br,hv,Ab,Int.toNat_natCast,hgv,Qv];refine ⟨⟨Cf _ _ rfl,by omega⟩,?_⟩;simp only[go_sem,D5];refine ih (k,b+1,rb++[fr.getD v 0]) _ ⟨by simp;omega,by simp only;omega,GQ SZ hx.1 hx.2,.inr (by have:=of_decide_eq_true c4;simp;omega)⟩ (by simp only;omega) ?_
 (refine Wk.forget ?_;simp[Le,AG,Av,get,Aa,Ac,Ad,D.ids,Ai,AO.ids,Ae,base,Cq,Ab];done)
theorem Am1 (l:List Int) (at_ Mx:Nat) (G4:at_<100000) (Qw:1≤Mx) (Qg:Mx≤10):
   Aj Tryz.prog 24 [.ptr 1000000 0,.p (.int .i64 (Mx:Nat))] [(1000000,.box (Br l at_))]
     fun h r=>∃at2 n,at2≤at_+200∧Akr n∧h=[(1000000,.box (Br l at2)),(0,.arr 76 3 (Bi n.blocks)),(1,.arr 22 1 (AM n.next)),(2,.arr 68 6 (Bh n.spurs)),(3,.arr 3 1 (Ag n.Al))]∧r= .agg n.os:=
 (Agd (fun _ _=>True) (fun n hn=>(Ai0 n hn).mono fun _ _ ⟨h1,o,sl,cap,h2,h3,h4⟩=>⟨h1,o,sl,cap,h2,h3,h4,trivial⟩) l at_ Mx G4 Qw Qg).mono
   fun _ _ ⟨at2,n,h1,h2,h3⟩=>⟨at2,n,h1,h2.1,h3⟩
def bnm (n:Nt) (x:Int):List UInt8:=(n.blocks.getD x.toNat C1).name
def Pp (b:JN):Dc:=⟨1,0,[b.name],[b.x,b.y]⟩
def LS (n:Nt) (i:Nat) (x:Int):Dc:=⟨2,0,[(n.blocks.getD i C1).name,bnm n x],[]⟩
def U8 (n:Nt) (i:Nat):List Dc:=(n.next.getD i []).map (LS n i)
def Ke (n:Nt) (s:BY):Dc:=⟨if s.A1 then 4 else 3,0,[s.name,bnm n s.Ft,bnm n s.out],[s.AH]⟩
def Qt (x:Int) (s:BY):Bool:=decide (s.base≤x)&&decide (x<s.base+s.AH)
def P9 (r:Int) (s:BY):Dc:=⟨5,0,[s.name],[r - s.base+1]⟩
def OF (n:Nt) (r:Int) (k:Nat):List Dc:=((n.spurs.take k).filter (Qt r)).map (P9 r)
def DJ (n:Nt):List Dc:=n.blocks.map Pp
def EN (n:Nt) (i:Nat):List Dc:=(List.range i).flatMap (U8 n)
def HE (n:Nt):List Dc:=n.spurs.map (Ke n)
def Gi (n:Nt) (i:Nat):List Dc:=(n.Al.take i).flatMap fun r=>OF n r n.spurs.length
def DK (n:Nt):List Dc:=DJ n++EN n n.blocks.length++HE n++Gi n n.Al.length++[⟨6,0,[],[n.cq,n.ca,n.cd,n.cp]⟩]
def Cp:Nat→List Dc→List Dc
 | _,[]=>[]
 | i,x::r=>⟨x.word,(i:Int)+1,x.names,x.AJ⟩::Cp (i+1) r
def BL (n:Nt):List Dc:=Cp 0 (DK n)
theorem DF:∀(i:Nat) (l:List Dc),(Cp i l).length=l.length
 | _,[]=>rfl
 | i,_::r=>by simp[Cp,DF (i+1) r]
theorem MS (n:Nt) (i:Nat):EN n (i+1)=EN n i++U8 n i:=by simp[EN,List.range_succ,List.flatMap_append]
theorem MR (n:Nt) (i:Nat) (h:i<n.Al.length):Gi n (i+1)=Gi n i++OF n (n.Al.getD i 0) n.spurs.length:=by
 unfold Gi;rw[AR n.Al i 0 h,List.flatMap_append];simp
theorem Aaf (n:Nt) (r:Int) (k:Nat) (h:k<n.spurs.length):OF n r (k+1)=OF n r k++(if Qt r (n.spurs.getD k AP) then [P9 r (n.spurs.getD k AP)] else []):=by
 unfold OF;rw[AR n.spurs k AP h,List.filter_append,List.map_append];generalize n.spurs.getD k AP=s;cases hh:Qt r s<;>simp[hh]
theorem Adz (l:List Dc) (i:Nat) (x:Dc):BO (l.set i x)=(BO l).set i [.int .i64 x.word,.int .i64 x.line,.sl (AV x.names),.sl (Ag x.AJ)]:=by simp[BO,List.map_set]
theorem Q7:∀(i:Nat) (a b:List Dc),Cp i (a++b)=Cp i a++Cp (i+a.length) b
 | _,[],_=>by simp[Cp]
 | i,x::r,b=>by simp only[List.cons_append,Cp,Q7 (i+1) r b,List.length_cons];rw[show i+1+r.length=i+(r.length+1) by omega]
theorem Aga (L:List Dc) (i:Nat) (h:i<L.length):(Cp 0 (L.take i)++L.drop i).set i ⟨(L.getD i Im).word,(i:Int)+1,(L.getD i Im).names,(L.getD i Im).AJ⟩=Cp 0 (L.take (i+1))++L.drop (i+1):=by
 rw[AR L i Im h,Q7,Bn L i Im h,List.set_append_right _ _ (by rw[DF];simp;omega),DF,List.length_take,show min i L.length=i by omega];simp[Cp]
theorem XH (n:Nt) (hn:validN n):Aj Tryz.prog 53 [.agg n.cs] [] fun h r=>h=[]∧r= .BA [.p (.sl (BO (BL n))),.p (.int .i64 0)]:=by
 have hV:=Li n (E0 hn);rw[decide_eq_true hn] at hV;obtain ⟨⟨Ou,RI,J7,IG⟩,hs6,hnm,p0,hcf,EI,SZ,hdp⟩:=hn;refine Ak Tryz.func53 rfl Xr (by simp[Tryz.f53]) ?_;simp only[go_sem,Nt.cs];refine Au ((hV)) ?_;rintro h' r ⟨rfl,rfl⟩;simp only[go_sem];refine Ao (fun q:Nat×List Dc=>⟨[(1,.ptr 1 0),(4,.ref 43 0 q.2.length q.2.length),(5,.p (.int .i64 (q.1:Nat)))],[(1,.box (Nt.cs n)),(43,.arr 82 4 (BO q.2))],210⟩)
   (fun q=>q.1≤n.blocks.length∧q.2.length=q.1∧q.2=(n.blocks.take q.1).map Pp) (fun q=>n.blocks.length - q.1) (0,[]) ⟨Nat.zero_le _,rfl,rfl⟩ ((Wk.nil (t:=4) (q:=43) (sz:=4) 82 rfl rfl (by decide)).trans (Wk.forget (by simp[Le,AG,Av,get,Aa,Ac,Ad,D.ids,Ai,AO.ids,Ae,base,Nt.cs,BO]))) ?_
 rintro ⟨i,acc⟩ m ⟨hi,Fe,ZC⟩ ih;simp only at hi Fe ZC;cases c1:decide ((i:Int)<(n.blocks.length:Int));rotate_left
 · have hit:i<n.blocks.length:=by have:=of_decide_eq_true c1;omega
   have hw:=As i (by omega);have hg:=HC n.blocks i hit;have Bm:(0:Int)≤(i:Int)∧(i:Int)<(n.blocks.length:Int):=by omega
   have On:=AR n.blocks i C1 hit;simp only[go_sem,Nt.cs,Ay,c1,Int.toNat_natCast,hg,Bm,A8];refine ⟨⟨Cf _ _ rfl,by omega⟩,?_⟩;simp only[go_sem,hw];refine ih (i+1,acc++[Pp (n.blocks.getD i C1)]) _ ⟨hit,by simp[Fe],by simp only;rw[On,List.map_append,ZC];rfl⟩ (by simp only;omega) ?_
   (refine Wk.forget ?_;simp[Le,AG,Av,get,Aa,Ac,Ad,D.ids,Ai,AO.ids,Ae,base,Nt.cs,DW,A8,Pp,AV,Ag];done)
 have TW:i=n.blocks.length:=by have:=of_decide_eq_false c1;omega
 subst TW;rw[List.take_length] at ZC;have SG:acc=DJ n:=ZC;clear ih ZC;simp only[go_sem,Nt.cs,Ay,c1];refine Ao (fun q:Nat×List Dc=>⟨[(1,.ptr 1 0),(4,.ref 43 0 q.2.length q.2.length),(7,.p (.int .i64 (q.1:Nat)))],[(1,.box (Nt.cs n)),(43,.arr 82 4 (BO q.2))],210⟩)
   (fun q=>q.1≤n.blocks.length∧q.2.length≤24+4*q.1∧q.2=DJ n++EN n q.1) (fun q=>n.blocks.length - q.1) (0,acc) ⟨Nat.zero_le _,by simp only;omega,by simp[SG,EN]⟩ (Wk.forget (by simp[Le,AG,Av,get,Aa,Ac,Ad,D.ids,Ai,AO.ids,Ae,base,Nt.cs,BO])) ?_
 rintro ⟨i,Anp⟩ m2 ⟨hi,Axi,Ahp⟩ ih;simp only at hi Axi Ahp;cases c2:decide ((i:Int)<(n.blocks.length:Int));rotate_left
 · have hit:i<n.blocks.length:=by have:=of_decide_eq_true c2;omega
   have hw:=As i (by omega);have hg:=HC n.blocks i hit;have Bm:(0:Int)≤(i:Int)∧(i:Int)<(n.blocks.length:Int):=by omega
   have HP:(0:Int)≤(i:Int)∧(i:Int)<(n.next.length:Int):=by omega
   have hgn:=DH n.next i (by omega)
   obtain ⟨_,hr4,Bj⟩:=IG i hit;have Awx:U8 n i=(n.next.getD i []).map (LS n i):=rfl;generalize n.next.getD i []=row at*
   simp only[go_sem,Nt.cs,Ay,c2];refine Ao (fun q:Nat×List Dc=>⟨[(1,.ptr 1 0),(4,.ref 43 0 q.2.length q.2.length),(7,.p (.int .i64 (i:Nat))),(8,.p (.int .i64 (q.1:Nat)))],[(1,.box (Nt.cs n)),(43,.arr 82 4 (BO q.2))],210⟩)
     (fun q=>q.1≤row.length∧q.2.length=Anp.length+q.1∧q.2=Anp++(row.take q.1).map (LS n i)) (fun q=>row.length - q.1) (0,Anp) ⟨Nat.zero_le _,rfl,by simp⟩ (Wk.forget (by simp[Le,AG,Av,get,Aa,Ac,Ad,D.ids,Ai,AO.ids,Ae,base,Nt.cs,BO])) ?_
   rintro ⟨k,X8⟩ m3 ⟨hk,Aqq,PN⟩ Fi;simp only at hk Aqq PN;cases c3:decide ((k:Int)<(row.length:Int))
   · have hke:k=row.length:=by have:=of_decide_eq_false c3;omega
     subst hke;simp only[go_sem,Nt.cs,Aw,Ab,Int.toNat_natCast,hgn,HP,c3,hw];refine ih (i+1,X8) _ ⟨hit,by simp only;omega,by simp only;rw[PN,List.take_length,MS,Awx,Ahp,List.append_assoc]⟩ (by simp only;omega) ?_
     (refine Wk.forget ?_;simp[Le,AG,Av,get,Aa,Ac,Ad,D.ids,Ai,AO.ids,Ae,base,Nt.cs];done)
   have HK:k<row.length:=by have:=of_decide_eq_true c3;omega
   have D5:=As k (by omega);have Ex:(0:Int)≤(k:Int)∧(k:Int)<(row.length:Int):=by omega
   have hro:=Bj k HK;obtain ⟨x,hx⟩:∃x:Nat,row.getD k 0=(x:Int):=⟨(row.getD k 0).toNat,by have:=hro.1;omega⟩;have hxb:x<n.blocks.length:=by have:=hro.2.1;omega
   have JV:=AD row k HK;rw[hx] at JV;have hgx:=HC n.blocks x hxb;have hx0:(0:Int)≤(x:Int)∧(x:Int)<(n.blocks.length:Int):=by omega
   have On:=AR row k 0 HK;rw[hx] at On;simp only[go_sem,Nt.cs,Aw,Ab,Int.toNat_natCast,hgn,HP,c3];refine BB [(1,.box (Nt.cs n))] mixed (p:=[(0,0),(1,0),(2,0),(3,0),(4,0),(5,0),(6,0),(7,0),(8,0),(9,0),(10,0),(11,0),(12,0),(13,0),(14,0),(15,0),(16,0),(17,0),(18,0),(19,0),(20,1),(21,0),(22,2),(23,2),(24,0)]) (by kernel_rfl) (by simp[Av,get,Nt.cs]) ?_;simp only[go_sem,Nt.cs,Ay,Aw,Ab,Int.toNat_natCast,hgn,HP,hg,Bm,JV,Ex,hgx,hx0,A8];refine ⟨⟨Cf _ _ rfl,by omega⟩,?_⟩;simp only[go_sem,D5];refine Fi (k+1,X8++[LS n i (x:Int)]) _ ⟨HK,by simp;omega,by simp only;rw[On,List.map_append,PN,List.append_assoc];rfl⟩ (by simp only;omega) ?_
   (refine Wk.forget ?_;simp[Le,AG,Av,get,Aa,Ac,Ad,D.ids,Ai,AO.ids,Ae,base,Nt.cs,DW,A8,LS,bnm,AV,Ag];done)
 have TW:i=n.blocks.length:=by have:=of_decide_eq_false c2;omega
 subst TW;clear ih;simp only[go_sem,Nt.cs,Ay,c2];refine Ao (fun q:Nat×List Dc=>⟨[(1,.ptr 1 0),(4,.ref 43 0 q.2.length q.2.length),(9,.p (.int .i64 (q.1:Nat)))],[(1,.box (Nt.cs n)),(43,.arr 82 4 (BO q.2))],210⟩)
   (fun q=>q.1≤n.spurs.length∧q.2.length≤200+q.1∧q.2=DJ n++EN n n.blocks.length++(n.spurs.take q.1).map (Ke n)) (fun q=>n.spurs.length - q.1) (0,Anp) ⟨Nat.zero_le _,by simp only;omega,by simp[Ahp]⟩ (Wk.forget (by simp[Le,AG,Av,get,Aa,Ac,Ad,D.ids,Ai,AO.ids,Ae,base,Nt.cs,BO])) ?_
 rintro ⟨i,X8⟩ m4 ⟨C0,Aqq,PN⟩ ih;simp only at C0 Aqq PN;cases c4:decide ((i:Int)<(n.spurs.length:Int));rotate_left
 · have hit:i<n.spurs.length:=by have:=of_decide_eq_true c4;omega
   have hw:=As i (by omega);have hg:=CG n.spurs i hit;have Bm:(0:Int)≤(i:Int)∧(i:Int)<(n.spurs.length:Int):=by omega
   have On:=AR n.spurs i AP hit;obtain ⟨g1,g2,g3,g4,_⟩:=EI i hit;generalize n.spurs.getD i AP=s at*;obtain ⟨nm,dp,Ft,out,sl,bs⟩:=s;simp only at g1 g2 g3 g4;obtain ⟨x,rfl⟩:∃x:Nat,Ft=(x:Int):=⟨Ft.toNat,by omega⟩;obtain ⟨y,rfl⟩:∃y:Nat,out=(y:Int):=⟨out.toNat,by omega⟩;have hgx:=HC n.blocks x (by omega);have hgy:=HC n.blocks y (by omega);have hx0:(0:Int)≤(x:Int)∧(x:Int)<(n.blocks.length:Int):=by omega
   have Yj:(0:Int)≤(y:Int)∧(y:Int)<(n.blocks.length:Int):=by omega
   simp only[go_sem,Nt.cs,Ax,c4,Int.toNat_natCast,hg,Bm];refine AY mixed (p:=[(0,0),(1,0),(2,0),(3,0),(4,0),(5,0),(6,0),(7,0),(8,0),(9,0),(10,0),(11,0),(12,0),(13,0),(14,0),(15,0),(17,0),(18,0),(16,1),(19,1),(20,0),(21,1),(22,3)]) (by kernel_rfl) (by simp[Av,get]) ?_;simp only[go_sem,Nt.cs,Ay,Int.toNat_natCast,hgx,hgy,hx0,Yj];cases dp
   · simp only[go_sem,A8];refine ⟨⟨Cf _ _ rfl,by omega⟩,?_⟩;simp only[go_sem,hw];refine ih (i+1,X8++[Ke n ⟨nm,false,(x:Int),(y:Int),sl,bs⟩]) _ ⟨hit,by simp;omega,by simp only;rw[On,List.map_append,PN,List.append_assoc];rfl⟩ (by simp only;omega) ?_
     (refine Wk.forget ?_;simp[Le,AG,Av,get,Aa,Ac,Ad,D.ids,Ai,AO.ids,Ae,base,Nt.cs,DW,A8,Ke,bnm,AV,Ag];done)
   · simp only[go_sem,A8];refine ⟨⟨Cf _ _ rfl,by omega⟩,?_⟩;simp only[go_sem,hw];refine ih (i+1,X8++[Ke n ⟨nm,true,(x:Int),(y:Int),sl,bs⟩]) _ ⟨hit,by simp;omega,by simp only;rw[On,List.map_append,PN,List.append_assoc];rfl⟩ (by simp only;omega) ?_
     (refine Wk.forget ?_;simp[Le,AG,Av,get,Aa,Ac,Ad,D.ids,Ai,AO.ids,Ae,base,Nt.cs,DW,A8,Ke,bnm,AV,Ag];done)
 have TW:i=n.spurs.length:=by have:=of_decide_eq_false c4;omega
 subst TW;clear ih;simp only[go_sem,Nt.cs,Ax,c4];have Axc:X8=DJ n++EN n n.blocks.length++HE n:=by rw[PN,List.take_length];rfl
 have hd3:True:=trivial;have Aqp:∀k,k<n.spurs.length→0≤(n.spurs.getD k AP).base∧(n.spurs.getD k AP).base≤1000∧1≤(n.spurs.getD k AP).AH∧(n.spurs.getD k AP).AH≤4:=fun k hk=>by
   have h3:=EI k hk;have h4:=EZ n.blocks.length n.spurs k (by omega) (fun j hj=>EI j (by omega));obtain ⟨_,_,_,_,h5,h6,h7⟩:=h3;omega
 refine Ao (fun q:Nat×List Dc=>⟨[(1,.ptr 1 0),(4,.ref 43 0 q.2.length q.2.length),(12,.p (.int .i64 (q.1:Nat)))],[(1,.box (Nt.cs n)),(43,.arr 82 4 (BO q.2))],210⟩)
   (fun q=>q.1≤n.Al.length∧q.2.length≤300+6*q.1∧q.2=X8++Gi n q.1) (fun q=>n.Al.length - q.1) (0,X8) ⟨Nat.zero_le _,by simp only;omega,by simp[Gi]⟩ (Wk.forget (by simp[Le,AG,Av,get,Aa,Ac,Ad,D.ids,Ai,AO.ids,Ae,base,Nt.cs,BO])) ?_
 rintro ⟨i,Ano⟩ m5 ⟨hi3,Axh,Aho⟩ ih;simp only at hi3 Axh Aho;cases c5:decide ((i:Int)<(n.Al.length:Int));rotate_left
 · have hit:i<n.Al.length:=by have:=of_decide_eq_true c5;omega
   have hw:=As i (by omega);have hgr:=AD n.Al i hit;have Bm:(0:Int)≤(i:Int)∧(i:Int)<(n.Al.length:Int):=by omega
   have hd4:=MR n i hit;have W4:∃s∈n.spurs,Lt (n.Al.getD i 0) s=true:=List.any_eq_true.1 (SZ i hit).1;generalize n.Al.getD i 0=x at*;simp only[go_sem,Nt.cs,Ab,c5];refine Ao (fun q:Nat×List Dc=>⟨[(1,.ptr 1 0),(4,.ref 43 0 q.2.length q.2.length),(12,.p (.int .i64 (i:Nat))),(13,.p (.int .i64 (q.1:Nat)))],[(1,.box (Nt.cs n)),(43,.arr 82 4 (BO q.2))],210⟩)
     (fun q=>q.1≤n.spurs.length∧q.2.length≤Ano.length+q.1∧q.2=Ano++OF n x q.1) (fun q=>n.spurs.length - q.1) (0,Ano) ⟨Nat.zero_le _,by simp,by simp[OF]⟩ (Wk.forget (by simp[Le,AG,Av,get,Aa,Ac,Ad,D.ids,Ai,AO.ids,Ae,base,Nt.cs,BO])) ?_
   rintro ⟨k,Ann⟩ m6 ⟨hk,Axg,Xb⟩ Fi;simp only at hk Axg Xb;cases c6:decide ((k:Int)<(n.spurs.length:Int))
   · have hke:k=n.spurs.length:=by have:=of_decide_eq_false c6;omega
     subst hke;simp only[go_sem,Nt.cs,Ax,c6,hw];refine ih (i+1,Ann) _ ⟨hit,by simp only;omega,by simp only;rw[Xb,hd4,Aho,List.append_assoc]⟩ (by simp only;omega) ?_
     (refine Wk.forget ?_;simp[Le,AG,Av,get,Aa,Ac,Ad,D.ids,Ai,AO.ids,Ae,base,Nt.cs];done)
   have HK:k<n.spurs.length:=by have:=of_decide_eq_true c6;omega
   have D5:=As k (by omega);have JV:=CG n.spurs k HK;have Ex:(0:Int)≤(k:Int)∧(k:Int)<(n.spurs.length:Int):=by omega
   have hb:=Aqp k HK;have hrs:=Aaf n x k HK;generalize n.spurs.getD k AP=s at*;obtain ⟨nm,dp,Ft,out,sl,bs⟩:=s;simp only at hb;have VW:IntKind.i64.wrap (bs+sl)=bs+sl:=by rw[An]<;>omega
   simp only[go_sem,Nt.cs,Ax,c6,Int.toNat_natCast,JV,Ex];refine AY mixed (p:=[(0,0),(1,0),(2,0),(3,0),(4,0),(5,0),(6,0),(7,0),(8,0),(9,0),(10,0),(11,0),(12,0),(13,0),(14,0),(15,0),(16,0),(17,0),(18,0),(19,0),(20,0)]) (by kernel_rfl) (by simp[Av,get]) ?_;cases c7:decide (bs≤x)
   · simp only[go_sem,Nt.cs,Ab,Int.toNat_natCast,hgr,Bm,c7,D5];refine Fi (k+1,Ann) _ ⟨HK,by simp only;omega,by simp only;rw[hrs,Xb];simp[Qt,c7]⟩ (by simp only;omega) ?_
     (refine Wk.forget ?_;simp[Le,AG,Av,get,Aa,Ac,Ad,D.ids,Ai,AO.ids,Ae,base,Nt.cs];done)
   cases c8:decide (x<bs+sl)
   · simp only[go_sem,Nt.cs,Ab,Int.toNat_natCast,hgr,Bm,c7,VW,c8,D5];refine Fi (k+1,Ann) _ ⟨HK,by simp only;omega,by simp only;rw[hrs,Xb];simp[Qt,c7,c8]⟩ (by simp only;omega) ?_
     (refine Wk.forget ?_;simp[Le,AG,Av,get,Aa,Ac,Ad,D.ids,Ai,AO.ids,Ae,base,Nt.cs];done)
   have Gz:=of_decide_eq_true c7;have Jo:=of_decide_eq_true c8;have hwd:IntKind.i64.wrap (x - bs)=x - bs:=by rw[An]<;>omega
   have hwe:IntKind.i64.wrap (x - bs+1)=x - bs+1:=by rw[An]<;>omega
   simp only[go_sem,Nt.cs,Ab,Int.toNat_natCast,hgr,Bm,c7,VW,c8];refine BB [(1,.box (Nt.cs n)),(14,.box [.p (.str nm),.p (.bool dp),.p (.int .i64 Ft),.p (.int .i64 out),.p (.int .i64 sl),.p (.int .i64 bs)])] mixed (p:=[(0,0),(1,0),(2,0),(4,0),(5,0),(6,0),(7,0),(8,0),(9,0),(10,0),(11,0),(12,0),(3,1),(13,1),(14,0),(15,2),(16,2),(17,0)]) (by kernel_rfl) (by simp[Av,get,Nt.cs]) ?_;simp only[go_sem,Nt.cs,Ab,Int.toNat_natCast,hgr,Bm,hwd,hwe,A8];refine ⟨⟨Cf _ _ rfl,by omega⟩,?_⟩;simp only[go_sem,D5];refine Fi (k+1,Ann++[P9 x ⟨nm,dp,Ft,out,sl,bs⟩]) _ ⟨HK,by simp;omega,by simp only;rw[hrs,Xb];simp[Qt,c7,c8]⟩ (by simp only;omega) ?_
   (refine Wk.forget ?_;simp[Le,AG,Av,get,Aa,Ac,Ad,D.ids,Ai,AO.ids,Ae,base,Nt.cs,DW,A8,P9,AV,Ag];done)
 have TW:i=n.Al.length:=by have:=of_decide_eq_false c5;omega
 subst TW;clear ih;simp only[go_sem,Nt.cs,Ab,c5,A8];refine ⟨⟨Cf _ _ rfl,by omega⟩,?_⟩;have hd0:Ano++[⟨6,0,[],[n.cq,n.ca,n.cd,n.cp]⟩]=DK n:=by rw[Aho,Axc];rfl
 have hLn:(DK n).length≤400:=by rw[←hd0];simp;omega
 have hdv:Cp 0 (DK n)=BL n:=rfl;generalize DK n=L at*;refine Ao (fun q:Nat×List Dc=>⟨[(4,.ref 43 0 q.2.length q.2.length),(16,.p (.int .i64 (q.1:Nat)))],[(43,.arr 82 4 (BO q.2))],210⟩)
   (fun q=>q.1≤L.length∧q.2=Cp 0 (L.take q.1)++L.drop q.1) (fun q=>L.length - q.1) (0,L) ⟨Nat.zero_le _,by simp[Cp]⟩ (Wk.forget (by simp[Le,AG,Av,get,Aa,Ac,Ad,D.ids,Ai,AO.ids,Ae,base,←hd0,DW,AV,Ag,A8])) ?_
 rintro ⟨i,o⟩ m7 ⟨hi4,ho⟩ ih;simp only at hi4 ho;have TT:o.length=L.length:=by rw[ho];simp[DF];omega
 cases c9:decide ((i:Int)<(L.length:Int))
 · have TW:i=L.length:=by have:=of_decide_eq_false c9;omega
   subst TW;simp only[go_sem,A8,TT,c9];refine Ah ?_;simp only[go_sem];rw[List.take_length,List.drop_length,List.append_nil] at ho;subst ho;rw[←hdv,List.take_of_length_le (by rw[A8];omega)];try exact ⟨by rw[A8];omega,rfl⟩
 · have hit:i<L.length:=by have:=of_decide_eq_true c9;omega
   have hw:=As i (by omega);have Bm:(0:Int)≤(i:Int)∧(i:Int)<(L.length:Int):=by omega
   have hgx:=R9 o i (by omega);have hox:o.getD i Im=L.getD i Im:=by
     rw[ho,List.getD,List.getElem?_append_right (by rw[DF,List.length_take];omega),List.getElem?_drop,DF,List.length_take,List.getD]
     congr 2;omega
   rw[hox] at hgx;have Da:=Aga L i hit;rw[←ho] at Da;generalize L.getD i Im=x at*;simp only[go_sem,A8,TT,c9,Int.toNat_natCast,Bm,hgx,hw];refine ih (i+1,o.set i ⟨x.word,(i:Int)+1,x.names,x.AJ⟩) _ ⟨hit,Da⟩ (by simp only;omega) ?_
   (refine Wk.forget ?_;simp[Le,AG,Av,get,Aa,Ac,Ad,D.ids,Ai,AO.ids,Ae,base,Adz,A8,TT];done)
theorem F8 {α β:Type} (f:α→List β) (k:Nat):∀l:List α,(∀x∈l,(f x).length≤k)→(l.flatMap f).length≤l.length*k
 | [],_=>by simp
 | x::r,h=>by
   have h1:=h x (by simp);have h2:=F8 f k r (fun y hy=>h y (by simp[hy]));simp only[List.flatMap_cons,List.length_append,List.length_cons,Nat.add_mul,Nat.one_mul];omega
theorem K7 (n:Nat):Lib.decDigits n=FO n:=by
 induction n using Nat.strongRecOn with
 | ind n ih=>
   rw[Lib.decDigits,FO];by_cases h:n<10
   · rw[dif_pos h,dif_pos h]
   · rw[dif_neg h,dif_neg h,ih (n / 10) (by omega)]
theorem Abe (n:Int):Lib.itoa n=MQ n:=by
 unfold Lib.itoa MQ;by_cases h:n<0
 · rw[if_pos h,if_pos h,K7,show n.natAbs=(-n).toNat by omega]
 · rw[if_neg h,if_neg h,K7]
def CT (x:Dc):List (List UInt8):=(Ct x.word.toNat).word::x.names++x.AJ.map MQ
theorem EC (x:Dc):BD x=true↔(1≤x.word∧x.word≤6)∧(x.AJ.length:Int)=(A4 x.word).2∧((x.names.length:Int)=(A4 x.word).1∨((A4 x.word).1<(x.names.length:Int)∧x.word=2))∧
   (∀s∈x.names,Bs s=true)∧∀n∈x.AJ,-9999≤n∧n≤9999:=by
 unfold BD;simp only[Bool.and_eq_true,Bool.or_eq_true,decide_eq_true_eq,List.all_eq_true,Bool.not_eq_true',Bool.or_eq_false_iff,decide_eq_false_iff_not,Int.not_lt]
def IP:List Dc→List Ln→List Ln×Int
 | [],acc=>(acc,0)
 | x::r,acc=>if BD x then IP r (acc++[⟨x.line,CT x⟩]) else ([],20)
theorem RO:∀(d:List Dc) (acc:List Ln),(∀x∈d,BD x=true)→IP d acc=(acc++d.map fun x=>⟨x.line,CT x⟩,0)
 | [],acc,_=>by simp[IP]
 | x::r,acc,h=>by
   simp only[IP,h x (by simp),if_true];rw[RO r _ (fun y hy=>h y (by simp[hy]))];simp
def Alj (d:List Dc):Prop:=d.length≤2000000∧∀x∈d,x.names.length≤2000000∧x.AJ.length≤2000000
theorem MH (k:Nat):∀(d:List Dc) (acc:List Ln),(∀x∈d,x.names.length≤k∧x.AJ.length≤k)→(∀x∈acc,x.fs.length≤1+2*k)→(IP d acc).1.length≤acc.length+d.length∧∀x∈(IP d acc).1,x.fs.length≤1+2*k
 | [],acc,_,h=>by simpa [IP] using h
 | x::r,acc,hd,h=>by
   simp only[IP];split
   · have hx:=hd x (by simp);have ih:=MH k r (acc++[⟨x.line,CT x⟩]) (fun y hy=>hd y (by simp[hy])) (fun y hy=>by
       rcases List.mem_append.1 hy with h1 | h1
       · exact h y h1
       · simp only[List.mem_singleton] at h1;subst h1;simp[CT];omega)
     simp only[List.length_append,List.length_cons,List.length_nil] at ih ⊢;exact ⟨by omega,ih.2⟩
   · simp
theorem WH:∀(i:Nat) (l:List Dc) (x:Dc),x∈Cp i l→∃y∈l,x.names=y.names∧x.AJ=y.AJ
 | _,[],x,h=>by simp[Cp] at h
 | i,y::r,x,h=>by
   simp only[Cp,List.mem_cons] at h;rcases h with rfl | h
   · exact ⟨y,by simp,rfl,rfl⟩
   · obtain ⟨z,hz,h1⟩:=WH (i+1) r x h;exact ⟨z,by simp[hz],h1⟩
theorem P1 (n:Nt) (hn:validN n):Alj (BL n):=by
 obtain ⟨⟨Ou,RI,J7,IG⟩,hs6,hnm,p0,hcf,EI,SZ,hdp⟩:=hn;have RE:(EN n n.blocks.length).length≤n.blocks.length*4:=by
   have:=F8 (U8 n) 4 (List.range n.blocks.length) (fun i hi=>by
     have:=(IG i (List.mem_range.1 hi)).2.1;simp only[U8,List.length_map];omega)
   simpa [EN] using this
 have hl4:(Gi n n.Al.length).length≤n.Al.length*6:=by
   have:=F8 (fun r=>OF n r n.spurs.length) 6 (n.Al.take n.Al.length) (fun r _=>by
     simp only[OF,List.length_map];exact Nat.le_trans (List.length_filter_le _ _) (by simp;omega))
   simpa [Gi] using this
 have Di:∀x∈DK n,x.names.length≤3∧x.AJ.length≤4:=by
   intro x hx;simp only[DK,List.mem_append,List.mem_singleton] at hx;rcases hx with (((hx | hx) | hx) | hx) | rfl
   · obtain ⟨b,_,rfl⟩:=List.mem_map.1 hx;simp[Pp]
   · obtain ⟨i,_,hx⟩:=List.mem_flatMap.1 hx;obtain ⟨y,_,rfl⟩:=List.mem_map.1 hx;simp[LS]
   · obtain ⟨b,_,rfl⟩:=List.mem_map.1 hx;simp[Ke]
   · obtain ⟨r,_,hx⟩:=List.mem_flatMap.1 hx;obtain ⟨y,_,rfl⟩:=List.mem_map.1 hx;simp[P9]
   · simp
 refine ⟨?_,fun x hx=>?_⟩
 · have:(DK n).length≤2000000:=by
     simp only[DK,List.length_append,DJ,HE,List.length_map,List.length_cons,List.length_nil];omega
   simpa [BL,DF] using this
 · obtain ⟨y,hy,h1,h2⟩:=WH 0 _ x hx;have:=Di y hy;rw[h1,h2];omega
theorem P6 (c:Int):Aj Tryz.prog 70 [.p (.int .u8 c)] [] fun h r=>h=[]∧r= .p (.bool (DM c)):=by
 refine Ak Tryz.func70 rfl Ail (by simp[Tryz.f70]) ?_;by_cases h1:33≤c
 · have CO:(32:Int)<c:=by omega
   by_cases h2:c≤126
   · simp only[go_sem,h1,h2];simp[DM,CO,h2]
   · simp only[go_sem,h1,h2];simp[DM,CO,h2]
 · have CO:¬(32:Int)<c:=by omega
   simp only[go_sem,h1];simp[DM,CO]
def Cr (s:List UInt8):Bool:=decide (s≠[])&&(decide (s.length≤12)&&s.all fun b=>DM b.toNat)
def B2:Int→List Ln→Bool
 | _,[]=>true
 | last,x::r=>decide (last<x.num)&&(decide (x.fs≠[])&&(x.fs.all Cr&&B2 x.num r))
def Cg:List (List UInt8)→List UInt8
 | []=>[]
 | x::r=>x++r.flatMap fun y=>32::y
def CQ:Nat→List Ln→List UInt8
 | _,[]=>[]
 | k,x::r=>List.replicate (x.num.toNat - k) 10++(Cg x.fs++10::CQ (x.num.toNat+1) r)
def Fs (l:List Ln):List UInt8×Int:=if B2 0 l then (if 6000<(CQ 1 l).length then ([],1) else (CQ 1 l,0)) else ([],20)
def HN:List (List UInt8)→Nat
 | []=>0
 | s::r=>s.length+1+HN r
def VS:List Ln→Nat
 | []=>0
 | x::r=>HN x.fs+VS r
def E7:Int→List Ln→Int
 | k,[]=>k
 | _,x::r=>E7 x.num r
theorem Hy {last:Int} {x:Ln} {r:List Ln}:B2 last (x::r)=true↔last<x.num∧x.fs≠[]∧(∀s∈x.fs,Cr s=true)∧B2 x.num r=true:=by
 simp only[B2,Bool.and_eq_true,decide_eq_true_eq,List.all_eq_true]
theorem Ix {s:List UInt8}:Cr s=true↔s≠[]∧s.length≤12∧∀b∈s,DM b.toNat=true:=by
 simp only[Cr,Bool.and_eq_true,decide_eq_true_eq,List.all_eq_true]
theorem Ai1 (r:List (List UInt8)):(r.flatMap fun y=>32::y).length=HN r:=by
 induction r with
 | nil=>rfl
 | cons x r ih=>simp[HN,ih];omega
theorem Ha:∀fs:List (List UInt8),fs≠[]→(Cg fs).length+1=HN fs
 | [],h=>(h rfl).elim
 | x::r,_=>by simp only[Cg,HN,List.length_append,Ai1];omega
theorem Alh:∀fs:List (List UInt8),fs≠[]→1≤HN fs
 | [],h=>(h rfl).elim
 | x::r,_=>by simp only[HN];omega
theorem OB:∀(l:List Ln) (k:Nat),B2 k l=true→((CQ (k+1) l).length:Int)+k+l.length=VS l+E7 k l∧(l.length:Int)≤VS l∧(k:Int)≤E7 k l
 | [],k,_=>by simp[CQ,VS,E7]
 | x::r,k,h=>by
   obtain ⟨h1,h2,h3,h4⟩:=Hy.1 h;obtain ⟨n,hn⟩:∃n:Nat,x.num=(n:Int):=⟨x.num.toNat,by omega⟩;rw[hn] at h4 h1;obtain ⟨h5,h6,h7⟩:=OB r n h4;have h8:=Ha x.fs h2;have h9:=Alh x.fs h2;simp only[CQ,VS,E7,hn,List.length_append,List.length_cons,List.length_replicate,Int.toNat_natCast];omega
theorem Abd (l:List Ln) (h:B2 0 l=true):(6000<(CQ 1 l).length)↔((6000:Int) - min (E7 0 l) 6001<(VS l:Int) - l.length):=by
 obtain ⟨h1,h2,h3⟩:=OB l 0 h;simp only[Nat.zero_add] at h1;have h4:((0:Nat):Int)=0:=rfl;rw[h4] at h1 h3;omega
theorem Ana (c:Int) (h:Yx c=true):DM c=true:=by
 rw[C6] at h;simp only[El,Bool.or_eq_true,Bool.and_eq_true,decide_eq_true_eq] at h;simp only[DM,Bool.and_eq_true,decide_eq_true_eq,Bool.not_eq_true',decide_eq_false_iff_not];omega
theorem TA {s:List UInt8} (h:Bs s=true):Cr s=true∧s.length≤12:=by
 cases s with
 | nil=>simp[Bs] at h
 | cons b r=>
   simp only[Bs,Bool.and_eq_true,decide_eq_true_eq,List.all_eq_true] at h;exact ⟨Ix.2 ⟨by simp,h.1.1,fun c hc=>Ana _ (h.2 c hc)⟩,h.1.1⟩
theorem XG:∀(n:Nat),∀b∈FO n,DM b.toNat=true:=by
 intro n
 induction n using Nat.strongRecOn with
 | _ n ih=>
   intro b hb;have key:∀d:Nat,d<10→DM ((UInt8.ofNat (48+d)).toNat:Nat)=true:=by
     intro d hd;have:((UInt8.ofNat (48+d)).toNat:Int)=48+d:=by simp;omega
     rw[this];simp only[DM,Bool.and_eq_true,decide_eq_true_eq,Bool.not_eq_true',decide_eq_false_iff_not];omega
   by_cases h:n<10
   · rw[EA n h] at hb;simp only[List.mem_singleton] at hb;subst hb;exact key n h
   · rw[K6 n h] at hb;rcases List.mem_append.1 hb with h1 | h1
     · exact ih (n / 10) (by omega) b h1
     · simp only[List.mem_singleton] at h1;subst h1;exact key (n % 10) (by omega)
theorem An5 (n:Nat):FO n≠[]:=by
 by_cases h:n<10
 · rw[EA n h];simp
 · rw[K6 n h];simp
theorem XF {n:Int} (h0:-9999≤n) (h1:n≤9999):Cr (MQ n)=true∧(MQ n).length≤5:=by
 unfold MQ;split
 · have hl:=HD 3 (-n).toNat (by omega);refine ⟨Ix.2 ⟨by simp,by simp;omega,fun b hb=>?_⟩,by simp;omega⟩;rcases List.mem_cons.1 hb with rfl | hb
   · decide
   · exact XG _ b hb
 · have hl:=HD 3 n.toNat (by omega);exact ⟨Ix.2 ⟨An5 _,by omega,XG _⟩,by omega⟩
theorem Ac7 (j:Nat) (h1:1≤j) (h2:j<7):Cr (Ct j).word=true∧(Ct j).word.length≤7:=by
 have hj:j=1∨j=2∨j=3∨j=4∨j=5∨j=6:=by omega
 rcases hj with rfl | rfl | rfl | rfl | rfl | rfl<;>decide
def wD (x:Dc):Nat:=8+13*x.names.length+6*x.AJ.length
def LR (x:Dc):Ln:=⟨x.line,CT x⟩
theorem Wl (a b:List (List UInt8)):HN (a++b)=HN a+HN b:=by
 induction a with
 | nil=>simp[HN]
 | cons x r ih=>simp only[List.cons_append,HN,ih];omega
theorem UH (k:Nat):∀l:List (List UInt8),(∀s∈l,s.length≤k)→HN l≤(k+1)*l.length
 | [],_=>by simp[HN]
 | x::r,h=>by
   have h1:=h x (by simp);have h2:=UH k r (fun s hs=>h s (by simp[hs]));simp only[HN,List.length_cons,Nat.mul_add,Nat.mul_one];omega
theorem Um (x:Dc) (h:BD x=true):(LR x).fs≠[]∧(∀s∈(LR x).fs,Cr s=true)∧HN (LR x).fs≤wD x:=by
 obtain ⟨⟨NL,TS⟩,_,_,hn,hk⟩:=(EC x).1 h;have hf:=Ac7 x.word.toNat (by omega) (by omega);refine ⟨by simp[LR,CT],fun s hs=>?_,?_⟩
 · simp only[LR,CT,List.cons_append,List.mem_cons,List.mem_append,List.mem_map] at hs;rcases hs with rfl | hs | ⟨k,HL,rfl⟩
   · exact hf.1
   · exact (TA (hn s hs)).1
   · exact (XF (hk k HL).1 (hk k HL).2).1
 · have h1:=UH 12 x.names (fun s hs=>(TA (hn s hs)).2);have h2:=UH 5 (x.AJ.map MQ) (fun s hs=>by
     obtain ⟨k,HL,rfl⟩:=List.mem_map.1 hs;exact (XF (hk k HL).1 (hk k HL).2).2)
   simp only[List.length_map] at h2;simp only[LR,CT,List.cons_append,HN,Wl,wD];have:=hf.2;omega
def LO (l:List Dc):Nat:=(l.map wD).sum
theorem Afi (a b:List Dc):LO (a++b)=LO a+LO b:=by simp[LO]
theorem Nj (k:Nat):∀l:List Dc,(∀x∈l,wD x≤k)→LO l≤k*l.length
 | [],_=>by simp[LO]
 | x::r,h=>by
   have h1:=h x (by simp);have h2:=Nj k r (fun y hy=>h y (by simp[hy]));simp only[LO,List.map_cons,List.sum_cons,List.length_cons,Nat.mul_add,Nat.mul_one] at h2 ⊢;omega
theorem Tx:∀(i:Nat) (L:List Dc),(∀x∈L,BD x=true)→B2 i ((Cp i L).map LR)=true∧E7 i ((Cp i L).map LR)=(i:Int)+L.length∧VS ((Cp i L).map LR)≤LO L
 | i,[],_=>by simp[Cp,B2,E7,VS,LO]
 | i,x::r,h=>by
   have hx:=h x (by simp);obtain ⟨h1,h2,h3⟩:=Tx (i+1) r (fun y hy=>h y (by simp[hy]));have hd:=Um ⟨x.word,(i:Int)+1,x.names,x.AJ⟩ hx;simp only[Cp,List.map_cons];have Rz:(LR ⟨x.word,(i:Int)+1,x.names,x.AJ⟩).num=((i+1:Nat):Int):=by simp[LR]
   refine ⟨Hy.2 ⟨by rw[Rz];omega,hd.1,hd.2.1,by rw[Rz];exact h1⟩,?_,?_⟩
   · simp only[E7,Rz,h2,List.length_cons];omega
   · have h4:wD ⟨x.word,(i:Int)+1,x.names,x.AJ⟩=wD x:=rfl;simp only[VS,LO,List.map_cons,List.sum_cons];have:=hd.2.2;unfold LO at h3;omega
theorem Q6:∀(i:Nat) (L:List Dc),(∀x∈L,BD x=true)→∀x∈Cp i L,BD x=true
 | _,[],_=>by simp[Cp]
 | i,x::r,h=>by
   intro y hy;simp only[Cp,List.mem_cons] at hy;rcases hy with rfl | hy
   · exact h x (by simp)
   · exact Q6 (i+1) r (fun z hz=>h z (by simp[hz])) y hy
theorem KA {α:Type} {l:List α} {x:α} (d:α) (h:x∈l):∃i,i<l.length∧l.getD i d=x:=by
 obtain ⟨i,hi,rfl⟩:=List.mem_iff_getElem.1 h;exact ⟨i,hi,by simp[List.getD,hi]⟩
theorem Ab3 (n:Nt) (h:Hn n):(∀b∈n.blocks,Bs b.name=true)∧∀s∈n.spurs,Bs s.name=true:=by
 have key:∀x∈BJ n,Bs x=true:=fun x hx=>by
   obtain ⟨i,hi,rfl⟩:=KA [] hx;exact (h i hi).1
 exact ⟨fun b hb=>key _ (by simp only[BJ,List.mem_append,List.mem_map];exact .inl ⟨b,hb,rfl⟩),fun s hs=>key _ (by simp only[BJ,List.mem_append,List.mem_map];exact .inr ⟨s,hs,rfl⟩)⟩
theorem XI (n:Nt) (hn:validN n):(∀x∈DK n,BD x=true)∧LO (DK n)≤6000∧(DK n).length≤400:=by
 obtain ⟨⟨Ou,RI,J7,IG⟩,hs6,hnm,p0,hcf,EI,SZ,hdp⟩:=hn;obtain ⟨hnb,hns⟩:=Ab3 n hnm;have hbn:∀x:Int,0≤x→x<n.blocks.length→Bs (bnm n x)=true:=fun x h0 h1=>by
   unfold bnm;exact hnb _ (A7 n.blocks x.toNat C1 (by omega))
 have h1:∀x∈DJ n,BD x=true∧wD x≤33:=by
   intro x hx;obtain ⟨b,hb,rfl⟩:=List.mem_map.1 hx;obtain ⟨i,hi,rfl⟩:=KA C1 hb;have hxy:=(IG i hi).1;unfold Yg at hxy;refine ⟨(EC _).2 ⟨by simp[Pp],by simp[Pp,A4],.inl (by simp[Pp,A4]),by simpa [Pp] using hnb _ hb,?_⟩,by simp[wD,Pp]⟩;simp only[Pp,List.mem_cons,List.not_mem_nil,or_false];rintro k (rfl | rfl)<;>omega
 have h2:∀x∈EN n n.blocks.length,BD x=true∧wD x≤34:=by
   intro x hx;obtain ⟨i,hi,hx⟩:=List.mem_flatMap.1 hx;obtain ⟨y,hy,rfl⟩:=List.mem_map.1 hx;have RF:=List.mem_range.1 hi;obtain ⟨k,hk,rfl⟩:=KA 0 hy;have Bj:=(IG i RF).2.2 k hk;refine ⟨(EC _).2 ⟨by simp[LS],by simp[LS,A4],.inl (by simp[LS,A4]),?_,by simp[LS]⟩,by simp[wD,LS]⟩;simp only[LS,List.mem_cons,List.not_mem_nil,or_false];rintro s (rfl | rfl)
   · exact hnb _ (A7 n.blocks i C1 RF)
   · exact hbn _ Bj.1 Bj.2.1
 have h3:∀x∈HE n,BD x=true∧wD x≤53:=by
   intro x hx;obtain ⟨s,hs,rfl⟩:=List.mem_map.1 hx;have Aqf:=hns s hs;obtain ⟨i,hi,rfl⟩:=KA AP hs;obtain ⟨g1,g2,g3,g4,g5,g6,_⟩:=EI i hi;generalize n.spurs.getD i AP=s at*;have hw:(if s.A1 then (4:Int) else 3)=3∨(if s.A1 then (4:Int) else 3)=4:=by cases s.A1<;>simp
   refine ⟨(EC _).2 ⟨by simp only[Ke];omega,?_,.inl ?_,?_,?_⟩,by simp[wD,Ke]⟩
   · rcases hw with hw | hw<;>simp[Ke,A4,hw]
   · rcases hw with hw | hw<;>simp[Ke,A4,hw]
   · simp only[Ke,List.mem_cons,List.not_mem_nil,or_false];rintro t (rfl | rfl | rfl)
     · exact Aqf
     · exact hbn _ (by omega) (by omega)
     · exact hbn _ (by omega) (by omega)
   · simp only[Ke,List.mem_cons,List.not_mem_nil,or_false];rintro k rfl;omega
 have h4:∀x∈Gi n n.Al.length,BD x=true∧wD x≤27:=by
   intro x hx;obtain ⟨r,_,hx⟩:=List.mem_flatMap.1 hx;obtain ⟨s,hs,rfl⟩:=List.mem_map.1 hx;obtain ⟨JT,KN⟩:=List.mem_filter.1 hs;have Ym:=List.mem_of_mem_take JT;have Aqf:=hns s Ym;obtain ⟨i,hi,rfl⟩:=KA AP Ym;obtain ⟨g1,g2,g3,g4,g5,g6,_⟩:=EI i hi;generalize n.spurs.getD i AP=s at*;simp only[Qt,Bool.and_eq_true,decide_eq_true_eq] at KN;refine ⟨(EC _).2 ⟨by simp[P9],by simp[P9,A4],.inl (by simp[P9,A4]),by simpa [P9] using Aqf,?_⟩,by simp[wD,P9]⟩;simp only[P9,List.mem_cons,List.not_mem_nil,or_false];rintro k rfl;omega
 have h5:BD ⟨6,0,[],[n.cq,n.ca,n.cd,n.cp]⟩=true:=by
   unfold JD at hcf;refine (EC _).2 ⟨by simp,by simp[A4],.inl (by simp[A4]),by simp,?_⟩;simp only[List.mem_cons,List.not_mem_nil,or_false];rintro k (rfl | rfl | rfl | rfl)<;>omega
 have RE:(EN n n.blocks.length).length≤n.blocks.length*4:=by
   have:=F8 (U8 n) 4 (List.range n.blocks.length) (fun i hi=>by
     have:=(IG i (List.mem_range.1 hi)).2.1;simp only[U8,List.length_map];omega)
   simpa [EN] using this
 have hl4:(Gi n n.Al.length).length≤n.Al.length*6:=by
   have:=F8 (fun r=>OF n r n.spurs.length) 6 (n.Al.take n.Al.length) (fun r _=>by
     simp only[OF,List.length_map];exact Nat.le_trans (List.length_filter_le _ _) (by simp;omega))
   simpa [Gi] using this
 refine ⟨fun x hx=>?_,?_,?_⟩
 · simp only[DK,List.mem_append,List.mem_singleton] at hx;rcases hx with (((hx | hx) | hx) | hx) | rfl
   · exact (h1 x hx).1
   · exact (h2 x hx).1
   · exact (h3 x hx).1
   · exact (h4 x hx).1
   · exact h5
 · have s1:=Nj 33 (DJ n) (fun x hx=>(h1 x hx).2);have s2:=Nj 34 (EN n n.blocks.length) (fun x hx=>(h2 x hx).2);have s3:=Nj 53 (HE n) (fun x hx=>(h3 x hx).2);have s4:=Nj 27 (Gi n n.Al.length) (fun x hx=>(h4 x hx).2);have s5:LO [(⟨6,0,[],[n.cq,n.ca,n.cd,n.cp]⟩:Dc)]=32:=by simp[LO,wD]
   have e1:(DJ n).length=n.blocks.length:=by simp[DJ]
   have e3:(HE n).length=n.spurs.length:=by simp[HE]
   simp only[DK,Afi,s5];rw[e1] at s1;rw[e3] at s3;omega
 · simp only[DK,List.length_append,DJ,HE,List.length_map,List.length_cons,List.length_nil];omega
theorem WN:∀(l:List Ln) (k:Int),B2 k l=true→(∀x∈l,x.num≤E7 k l)∧k≤E7 k l
 | [],k,_=>by simp[E7]
 | x::r,k,h=>by
   obtain ⟨h1,_,_,h2⟩:=Hy.1 h;obtain ⟨h3,h4⟩:=WN r x.num h2;refine ⟨fun y hy=>?_,by simp only[E7];omega⟩;rcases List.mem_cons.1 hy with rfl | hy
   · exact h4
   · exact h3 y hy
theorem Afh:∀l:List (List UInt8),l.length≤HN l
 | []=>by simp[HN]
 | x::r=>by have:=Afh r;simp only[HN,List.length_cons];omega
theorem j6:∀(l:List Ln) (x:Ln),x∈l→HN x.fs≤VS l
 | [],x,h=>by simp at h
 | y::r,x,h=>by
   simp only[VS];rcases List.mem_cons.1 h with rfl | h
   · omega
   · have:=j6 r x h;omega
theorem Sc (n:Nt) (hn:validN n):(∀x∈BL n,BD x=true)∧B2 0 ((BL n).map LR)=true∧(CQ 1 ((BL n).map LR)).length≤6000∧(BL n).length≤400∧∀x∈(BL n).map LR,x.num≤400∧x.fs.length≤6000:=by
 obtain ⟨h1,h2,h3⟩:=XI n hn;obtain ⟨h4,h5,h6⟩:=Tx 0 (DK n) h1;have h7:=OB ((BL n).map LR) 0 h4;have h8:=WN _ _ h4;have h9:∀x∈(BL n).map LR,x.num≤400∧x.fs.length≤6000:=fun x hx=>by
   have S3:=Afh x.fs;have h13:=j6 _ x hx;have h14:VS ((BL n).map LR)≤LO (DK n):=h6;have Lx:x.num≤E7 ((0:Nat):Int) ((Cp 0 (DK n)).map LR):=h8.1 x hx;rw[h5] at Lx;refine ⟨?_,by omega⟩;omega
 refine ⟨Q6 0 _ h1,h4,?_,by simpa [BL,DF] using h3,h9⟩;have e1:((BL n).map LR).length=(DK n).length:=by simp[BL,DF]
 have e2:E7 ((0:Nat):Int) ((BL n).map LR)=((0:Nat):Int)+(DK n).length:=h5;have e3:VS ((BL n).map LR)≤LO (DK n):=h6;have e4:((CQ 1 ((BL n).map LR)).length:Int)+((0:Nat):Int)+((BL n).map LR).length=VS ((BL n).map LR)+E7 ((0:Nat):Int) ((BL n).map LR):=h7.1;omega
end Go.Am
end
