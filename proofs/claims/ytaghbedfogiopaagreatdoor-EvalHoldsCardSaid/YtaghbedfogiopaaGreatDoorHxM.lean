/- Filters: a live question; what is given. -/
import Derived.Test.YtaghbedfogiopaaGreatDoorHxL
set_option linter.unusedSimpArgs false
set_option linter.unusedVariables false
set_option linter.unusedSectionVars false
set_option linter.unnecessarySimpa false
set_option maxRecDepth 100000
set_option maxHeartbeats 2000000
namespace Go.LX
open Go Go.RowKit Go.Proofs Go.Proofs.Tryz
attribute [local irreducible] Al SWP Bi
attribute [go_sem] ntmps10 results10 ntmps11 results11
structure FiFit (v:List YRow):Prop where
 len:v.length<=140737488355328
 row:∀ n∈v,ERow n
structure FiFitW (v:List YRow):Prop extends FiFit v where
 reach:v.length * 120<=140737488351232
theorem J0m {v:List YRow} {m:Nat} (h:Jvn v m=true):∃ t:RT,okQ t/\¬ Jrm t.kind/\v=t.enc []/\(t.enc []).length<=m/\FitQ t:=by
 unfold Jvn at h;rw[Ea6] at h;obtain ⟨t,h1,h2,rfl⟩:=Jwr.1 h.2;have h3:=h.1;unfold Jyz at h3;simp only[Ea6,decide_eq_true_eq,Eby] at h3;refine ⟨t,h1,h2,rfl,h3.1,fun r hr=>?_⟩;have h4:=h3.2 r hr;simp only[shortY,Ea6,decide_eq_true_eq] at h4;exact ⟨omg,omg⟩
theorem J5i (v:List YRow) (u:List Node) (hv:FiFit v) (hu:ValFit u):Det cx 10 [.p (.sl (rowL v)),.p (.sl (valL u))] [] (.p (.bool (Jvn v 40 && fewB u 40))) []:=by
 have h1:=Kha v 40 omg (by have:=hv.len;omega) hv.row;have h2:=Ln u 40 omg (by have:=hu.len;omega) hu.node;cases b1:Jvn v 40 with
 | false =>
  rw[b1] at h1;rw[Bool.false_and];(refine bgo func10 ?_;simp only[go_sem,simprocAttr]);(repeat'(first|((refine Jqa h1 ?_);simp only[go_sem,simprocAttr])|fail))
 | true =>
  rw[b1] at h1;rw[Bool.true_and];(refine bgo func10 ?_;simp only[go_sem,simprocAttr]);(repeat'(first|((first|refine Jqa h1 ?_|refine Jqa h2 ?_);simp only[go_sem,simprocAttr])|fail))
def oneA:Tree:=.mk 3 [49] false 0 .nil
def objA:Tree:=nd 6 [([97],oneA)]
theorem Kgy:okT oneA:=by
 unfold oneA;rw[Lu];exact ⟨by decide,Sb 3,I6⟩
theorem Ka2:GT oneA:=⟨Kgy,by
 unfold oneA FitT;intro n hn;rw[A6,Bl] at hn;simp only[Eam,Ebt,or_false] at hn;subst hn;exact ⟨by decide,by decide,by decide,by decide⟩⟩
theorem J6f:GT objA:=J49 (List.pairwise_singleton _ _) fun p hp=>by
 simp only[Eam,Ebt,or_false] at hp;subst hp;exact ⟨(by decide:valid [97]=true),(by decide:(1:Nat)<=1000000),Ka2⟩
theorem Jsw:Det cx 11 [] [] (.p (.bool true)) []:=by
 have hO:=Zc [([97],oneA)] de (by intro p hp;simp only[Eam,Ebt,or_false] at hp;subst hp;exact (by decide:(1:Nat)<=1000000));have hok:M3 [([97],oneA)]=true:=by
  unfold M3;rw[decide_eq_true_eq];refine ⟨fun p hp=>?_,by simp⟩;simp only[Eam,Ebt,or_false] at hp;subst hp;exact (by decide:valid [97]=true)
 rw[objR,if_pos hok,show Lp [([97],oneA)]=[([97],oneA)] from rfl,show Tree.mk 6 [] false 0 (A1 [([97],oneA)])=objA from rfl,show Bd [([97],oneA)]=[[.str [97]]] from rfl,show A4 [([97],oneA)]=[[.sl (valL (oneA.enc []))]] from rfl] at hO;have e1:=Kjc objA J6f de;have e2:=Kjc nilT Jwp de;have e3:=Kjc oneA Ka2 de;have x1:Jql fldA objA=.ok oneA:=by rw[Khz];unfold objA;rw[Kfz rfl];rfl
 have x2:Jql fldA nilT=.ok nilT:=by rw[Khz];exact Ke1 _
 have x3:Jql fldA oneA=.error 5:=by rw[Khz];exact Jyn de de
 rw[x1,getR] at e1;rw[x2,getR] at e2;rw[x3,getR] at e3;have hH:=ev_cmp objA J6f de;have hB:resB (Jrf cmpA objA)=true:=by decide +kernel
 have hC:resC (Jrf cmpA objA)=0:=by decide +kernel
 rw[hB,hC] at hH;have hD:=Jz5 [⟨false,[97],0⟩] objA de (fun x hx=>by
  simp only[Eam,Ebt,or_false] at hx;subst hx;exact ⟨rfl,(by decide:valid [97]=true)⟩) J6f de
 have x4:delT [⟨false,[97],0⟩] objA=.ok (nd 6 []):=by
  rw[Kd0,if_neg (show ¬ objA.kind=0 from (by decide:¬ (6:Int)=0)),show inT objA ⟨false,[97],0⟩=.ok oneA from by unfold objA;rw[Vv rfl];rfl];simp only;rw[if_pos trivial];unfold objA;rw[Keb rfl];rfl
 rw[x4,getR] at hD;have hS:=Kkl (oneA.enc []) (oneA.enc []) de de;rw[decide_eq_true rfl] at hS;have r1:rowL (fldA.enc [])=[[.int .i64 1,.int .i64 0,.str [],.str [97],.int .i64 0,.int .i64 0,.int .i64 0,.str [],.str [],.bool false,.int .i64 0]]:=rfl;have r2:rowL (cmpA.enc [])=[[.int .i64 16,.int .i64 0,.str [],.str [46,97],.int .i64 5,.int .i64 3,.int .i64 0,.str [],.str [49],.bool false,.int .i64 0]]:=rfl;have r3:valL (oneA.enc [])=[[.int .i64 3,.int .i64 0,.str [],.str [49],.bool false,.int .i64 0]]:=rfl;have r4:valL (objA.enc [])=[[.int .i64 6,.int .i64 1,.str [],.str [],.bool false,.int .i64 0],[.int .i64 3,.int .i64 0,.str [97],.str [49],.bool false,.int .i64 0]]:=rfl;have r5:valL (nilT.enc [])=[[.int .i64 0,.int .i64 0,.str [],.str [],.bool false,.int .i64 0]]:=rfl;have r6:valL ((nd 6 []).enc [])=[[.int .i64 6,.int .i64 0,.str [],.str [],.bool false,.int .i64 0]]:=rfl;have r7:Bb [⟨false,[97],0⟩]=[[.bool false,.str [97],.int .i64 0]]:=rfl;rw[r3,r4] at hO e1;rw[r1] at e1 e2 e3;rw[r5] at e2;rw[r3] at e3 hS;rw[r2,r4] at hH;rw[r7,r4,r6] at hD;(refine bgo func11 ?_;simp only[go_sem,simprocAttr]);(repeat'(first|((first|refine Jqa hO ?_|refine Jqa e1 ?_|refine Jqa e2 ?_|refine Jqa e3 ?_|refine Jqa hH ?_|refine Jqa hD ?_|refine Jqa hS ?_);simp only[go_sem,simprocAttr])|fail))
end Go.LX
namespace Go.LX
open Go Go.Proofs Go.Proofs.Tryz Go.RowKit Go.ChangeShapes Go.WideShapes Go.ChangeAt Go.Lib
open Go.Proofs.YtaghbedfogiopaaGreatDoor
theorem cTm:Tryz.prog.cellsOf 38=11:=kr
theorem bTm:0<Tryz.prog.bytesOf 38:=by decide +kernel
def YRow.vals (r:YRow):List Value:=[.int .i64 r.kind,.int .i64 r.many,.string ⟨⟨r.name⟩⟩,.string ⟨⟨r.s⟩⟩,.int .i64 r.n,.int .i64 r.c.kind,.int .i64 r.c.many,.string ⟨⟨r.c.name⟩⟩,.string ⟨⟨r.c.s⟩⟩,.bool r.c.neg,.int .i64 r.c.e]
theorem eachTm {H:Type} {enc:TypeId×Value->H} {w:World} (fuel:Nat) (cs:List Value) (y:DataW H×List MemPlace) (h:DataW.trod enc Tryz.prog w 0 (fun _=>true) true fuel 38 cs=some y) (hz:∀ n∈y.1.weights Tryz.prog 38,n<=reachBytes) :
  ∃ x:YRow,ERow x/\cs=x.vals:=by
 obtain ⟨xs,n,_,rfl,hl,hlen,hf⟩:=DataW.trod_struct underlying38 h;rw[cTm] at hl
 match xs,hlen,cs,hl with
 | [y0,y1,y2,y3,y4,y5],_,[a0,a1,a2,a3,a4,a5,a6,a7,a8,a9,a10],_ =>
  have g0:=hf 0 _ rfl;have g1:=hf 1 _ rfl;have g2:=hf 2 _ rfl;have g3:=hf 3 _ rfl;have g4:=hf 4 _ rfl;have g5:=hf 5 _ rfl;simp only[Kk0,cStr,cInt,Kf7,Ebw,Eb7,Ebl,Eb4,List.getElem?_cons_zero,List.getElem?_cons_succ] at g0 g1 g2 g3 g4 g5;obtain ⟨x0,e0,rfl,_⟩:=DataW.trod_int underlying3 g0;obtain ⟨x1,e1,rfl,_⟩:=DataW.trod_int underlying3 g1;obtain ⟨x2,e2,rfl,z2⟩:=DataW.trod_string underlying9 g2;obtain ⟨x3,e3,rfl,z3⟩:=DataW.trod_string underlying9 g3;obtain ⟨x4,e4,rfl,_⟩:=DataW.trod_int underlying3 g4;obtain ⟨c,hc,e5⟩:=Jly _ _ _ g5 (fun n hn=>hz n (by simp[DataW.weights,DataW.weightsEach,underlying38,hn]));cases e0;cases e1;cases e2;cases e3;cases e4;cases e5;have hm:maxLen=9223372036854775807:=by decide
  have s2:=T8 x2;have s3:=T8 x3;refine ⟨⟨x0,x1,x2.data.toList,x3.data.toList,x4,c⟩,⟨?_,?_,hc.s,hc.e0,hc.e1⟩,?_⟩
  ·show x3.data.toList.length<=_;omega
  ·show x2.data.toList.length<=_;omega
  ·simp only[YRow.vals,Jc3]
theorem Kgw (w:World) (Im:Nat->Prop) (x:YRow) (j:Nat) (p:PV) (h:x.cells[j]? = some p):PRep w Im (x.vals.getD j undef) p:=by
 match j,h with
 | 0,h=>cases h;exact PRep.int _ _
 | 1,h=>cases h;exact PRep.int _ _
 | 2,h=>cases h;exact PRep.str _
 | 3,h=>cases h;exact PRep.str _
 | 4,h=>cases h;exact PRep.int _ _
 | 5,h=>cases h;exact PRep.int _ _
 | 6,h=>cases h;exact PRep.int _ _
 | 7,h=>cases h;exact PRep.str _
 | 8,h=>cases h;exact PRep.str _
 | 9,h=>cases h;exact PRep.bool _
 | 10,h=>cases h;exact PRep.int _ _
 | j+11,h=>simp[YRow.cells] at h
theorem openInW {α H:Type} {enc:TypeId×Value->H} {P:Program} {w:World} {t e:TypeId} {c:Nat} (vals:α->List Value) (cells:α->List PV) (Good:α->Prop)
  (ht:P.underlying t=some (.slice e)) (hc:P.cellsOf e=c) (hc0:0<c) (hb:0<P.bytesOf e) (hvl:∀ x,(vals x).length=c) (hcl:∀ x,(cells x).length=c) (hsc:∀ x,∀ p∈cells x,p.scalar=true)
  (hrep:∀ x j p,Good x->(cells x)[j]? = some p->PRep w (Ja w) ((vals x).getD j undef) p)
  (each:∀ (fuel:Nat) (cs:List Value) (y:DataW H×List MemPlace),DataW.trod enc P w 0 (fun _=>true) true fuel e cs=some y->(∀ n∈y.1.weights P e,n<=reachBytes)->∃ x,Good x/\cs=vals x)
  {cs:List Value} {fuel:Nat} {x:DataW H×List MemPlace} (h:DataW.trod enc P w 0 (fun _=>true) true fuel t cs=some x) (hz:∀ n∈x.1.weights P t,n<=reachBytes) :
  ∃ (v:Value) (p:List α),cs=[v]/\p.length * P.bytesOf e<=reachBytes/\(∀ a∈p,Good a)/\PRep w (Ja w) v (.sl (p.map cells)):=by
 rcases Go.Deep.open_slice ht h with ⟨rfl,rfl⟩ | ⟨a,len,cap,m,n,D,Pl,rfl,hb0,hl,hm,hmm,rfl,hx⟩
 ·exact ⟨_,[],rfl,by simp,by simp,PRep.slNil⟩
 ·simp only[if_true] at hmm;subst hmm;by_cases h0:m=0
  ·subst h0;obtain rfl:len=0:=by omega
   exact ⟨_,[],rfl,by simp,by simp,PRep.slNil⟩
  obtain ⟨blk,off,spot⟩:=a;obtain ⟨cs0,hc1,_⟩:=hx 0 omg;have h00:=(World.cells?_some hc1).2.2 0 omg;have hl0:=(World.cells?_some hc1).2.1;have hcell:(w.cell? ⟨blk,off,spot⟩).isSome=true:=by
   have e1:((⟨blk,off,spot⟩:Addr).add (0 * P.cellsOf e)).add 0=⟨blk,off,spot⟩:=by rw[Ec1];rfl
   rw[e1] at h00;rw[h00,Eaa omg];rfl
  have hsp:spot=none:=by
   unfold World.cell? at hcell;cases spot with
   | none=>rfl
   | some s=>split at hcell<;>simp at hcell
  subst hsp;have hblk:blk<w.heap.size:=by
   rcases Ede blk w.heap.size with h | h
   ·exact h
   ·unfold World.cell? at hcell;simp only[Array.getElem?_eq_none h] at hcell;simp at hcell
  have hlen:len * P.bytesOf e<=reachBytes:=by
   have h1:=hz ((len+(m - len)) * P.bytesOf e) (by simp[DataW.weights,ht]);exact Nat.le_trans (Nat.mul_le_mul_right _ (Nat.le_add_right _ _)) h1
  obtain ⟨p,hp,hq⟩:=Jkw (Q:=fun i x=>Good x/\w.cells? 0 ((⟨blk,off,none⟩:Addr).add (i * c)) c=some (vals x)) len fun i hi=>by
   obtain ⟨cs',h1,h2⟩:=hx i omg;rw[hc] at h1;obtain ⟨x,hg,rfl⟩:=each n cs' _ h2 (fun k hk=>hz k (by
    simp only[DataW.weights,ht,Eam,Eau];exact .inr (.inl (J8 (Eav.2 ⟨i,List.mem_range.2 hi,rfl⟩) hk))))
   exact ⟨x,hg,h1⟩
  refine ⟨_,p,rfl,by rw[hp];exact hlen,fun a ha=>?_,?_⟩
  ·obtain ⟨i,hi⟩:=Ebr ha;exact (hq i a hi).1
  ·have e2:len=(p.map cells).length:=by simp[hp]
   have key:=PRep.sl (w:=w) (Im:=Ja w) blk off m c (p.map cells) (by rw[<- e2];exact hl) hblk (fun i j=>match p[i]? with | some x=>(vals x).getD j undef | none=>undef)
    (fun r hr=>by obtain ⟨x,_,rfl⟩:=Eav.1 hr;exact hcl x)
    (fun r hr=>by obtain ⟨x,_,rfl⟩:=Eav.1 hr;exact hsc x)
    (fun i hi j hj=>by
     rw[<- e2] at hi;obtain ⟨x,hx'⟩:∃ x,p[i]? = some x:=⟨_,Eaa omg⟩
     have h1:=(World.cells?_some (hq i x hx').2).2.2 j hj;rw[Go.Deep.add_add,Jka,<- Ebx] at h1;rw[h1,hx'];have h3:j<(vals x).length:=by rw[hvl];exact hj
     simp[Eai,Eaa h3])
    (fun i r j q hr hq'=>by
     rw[Eal] at hr;cases hx':p[i]? with
     | none=>rw[hx'] at hr;cases hr
     | some x =>
      rw[hx'] at hr;obtain rfl:=Ea9 hr;exact hrep x j q (hq i x hx').1 hq')
   rw[<- e2] at key;exact key
theorem openRowsW {α H:Type} {enc:TypeId×Value->H} {P:Program} {w:World} {t e:TypeId} {c:Nat} (vals:α->List Value) (cells:α->List PV) (Good:α->Prop)
  (ht:P.underlying t=some (.slice e)) (hc:P.cellsOf e=c) (hb:0<P.bytesOf e) (hvl:∀ x,(vals x).length=c) (hcl:∀ x,(cells x).length=c) (hsc:∀ x,∀ p∈cells x,p.scalar=true)
  (hrep:∀ (Im:Nat->Prop) x j p,(cells x)[j]? = some p->PRep w Im ((vals x).getD j undef) p)
  (each:∀ (fuel:Nat) (cs:List Value) (y:DataW H×List MemPlace),DataW.trod enc P w 0 (fun _=>true) true fuel e cs=some y->(∀ n∈y.1.weights P e,n<=reachBytes)->∃ x,Good x/\cs=vals x)
  {b:Nat} {v:Value} (hok:Cell.okWide P w .any b t v) {fuel:Nat} {x:DataW H×List MemPlace} (h:DataW.trod enc P w 0 (fun _=>true) true fuel t [v]=some x) (hz:∀ n∈x.1.weights P t,n<=reachBytes) (hc0:0<c:=by decide) :
  ∃ p:List α,p.length * P.bytesOf e<=reachBytes/\(∀ a∈p,Good a)/\PRep w (Ja w) v (.sl (p.map cells)):=by
 obtain ⟨v',p,e1,h1,h2,h3⟩:=openInW vals cells Good ht hc hc0 hb hvl hcl hsc (fun x j p _ h=>hrep _ x j p h) each h hz;cases e1;exact ⟨p,h1,h2,h3⟩
theorem bTmW:Tryz.prog.bytesOf 38=120:=by decide +kernel
theorem cellFi {H:Type} {enc:TypeId×Value->H} {w:World} {b:Nat} {v:Value} (hok:Cell.okWide Tryz.prog w .any b 23 v) {fuel:Nat} {x:DataW H×List MemPlace} (h:DataW.trod enc Tryz.prog w 0 (fun _=>true) true fuel 23 [v]=some x) (hz:∀ n∈x.1.weights Tryz.prog 23,n<=reachBytes) :
  ∃ p:List YRow,FiFitW p/\PRep w (Ja w) v (.sl (rowL p)):=by
 obtain ⟨p,h1,h2,h3⟩:=openRowsW YRow.vals YRow.cells ERow underlying23 cTm bTm (fun _=>rfl) (fun _=>rfl) (fun x p hp=>by simp[YRow.cells] at hp;rcases hp with rfl | rfl | rfl | rfl | rfl | rfl | rfl | rfl | rfl | rfl | rfl<;>rfl) (Kgw w) eachTm hok h hz;rw[bTmW] at h1;have h1:p.length * 120<=140737488351232:=h1;exact ⟨p,⟨⟨omg,h2⟩,h1⟩,h3⟩
theorem Kmf {H:Type} {enc:TypeId×Value->H} {w:World} {b:Nat} {v:Value} {d:DataW H} {q:List MemPlace} {ts:List TypeId} {ds:List (DataW H)} (hok:Value.okWide Tryz.prog w .any b 23 v) (h:DataW.Trod enc Tryz.prog w 0 (fun _=>true) true 23 v d q)
  (hz:(DataW.weightsEach Tryz.prog ts ds).all (· <= reachBytes)=true) {j:Nat} (h1:ts[j]? = some 23) (h2:ds[j]? = some d):∃ p:List YRow,FiFitW p/\PRep w (Ja w) v (.sl (rowL p)):=by
 simp only[Value.okWide,underlying23] at hok;obtain ⟨fuel,h⟩:=h;rw[Jkh underlying23 hok] at h;exact cellFi hok h (J0 hz h1 h2)
theorem Kjm {W:World} (h:laidMetH Tryz.prog Rows.evalTellsRow.laid W):QuoteG W (Ja W):=Jdp h
end Go.LX
namespace Go.LX
open Go Go.RowKit Go.Proofs Go.Proofs.Tryz
attribute [local irreducible] Al SWP Bi
attribute [go_sem] ntmps9 results9
theorem Kj2 (s:List UInt8) (i:Nat) (hs:s.length<=140737488355328) (hi:i<=200000000000000):Det cx 151 [.p (.str s),.p (.int .i64 i)] [] (.p (.bool (ct s i))) []:=by
 (refine bgo func151 ?_;simp only[go_sem,simprocAttr]);(repeat'(first|(apply iteI<;>intro h)|refine Jqj ?_|fail))
 all_goals (rw[Ea1];simp[ct];omega)
theorem Kjy (s:List UInt8) (i:Nat) (hs:s.length<=140737488355328) (hi:i<s.length):Det cx 113 [.p (.str s),.p (.int .i64 i)] [] (.p (.int .i64 (rlen s i))) []:=by
 have w1:=wi1 (i:=i) omg;have w2:=wi2 (i:=i) omg;have w3:=wi3 (i:=i) omg;have hA:=Fr s i;have hB:=Fr s (i+1);(refine bgo func113 ?_;simp only[go_sem,simprocAttr,w1]);(repeat'(first|(apply iteI<;>intro h)|refine Jqj ?_|((refine Jqa (Kj2 s _ hs omg) ?_);simp only[go_sem,simprocAttr,w1,w2,w3])|(refine And.intro (ct_lt (by assumption)) ?_)|(exfalso;omega)))
 all_goals (clear w1 w2 w3;unfold rlen;simp only[J3] at *;(repeat' split)<;>omega)
theorem Kjj (s:List UInt8) (hs:s.length<=140737488355328):Det cx 57 [.p (.str s)] [] (.p (.bool (valid s))) []:=by
 (refine bgo func57 ?_;simp only[go_sem,simprocAttr]);refine SWP.loop (fun x:Nat×Nat=>⟨Ba 17 [(0,.p (.str s)),(3,.p (.int .i64 x.1))],[]⟩) (fun x=>x.1<=s.length/\s.length+1<=x.1+x.2/\vF s x.2 x.1=valid s) (fun x=>s.length - x.1) (0,s.length+1) Jqc ⟨by simp,by simp,rfl⟩ ?_;rintro ⟨i,f⟩ ⟨h1,h2,h3⟩;simp only at h1 h2 h3;obtain ⟨g,rfl⟩:∃ g,f=g+1:=⟨f - 1,omg⟩
 have h4:=Qv s i;have hw:=wia (i:=i) (j:=rlen s i) omg omg;(refine lws ?_;simp only[go_sem,simprocAttr]);(repeat'(first|(apply iteI<;>intro h)|((refine Jqa (Kjy s i hs omg) ?_);simp only[go_sem,simprocAttr,hw])|fail))
 ·rw[<- h3,vF,if_pos omg,if_pos omg]
 ·have:=M4 s i omg;exact ⟨(i+rlen s i,g),⟨by simp only;omega,by simp only;omega,by simp only;rw[<- h3,vF,if_pos omg,if_neg omg]⟩,by simp only;omega,Jqc⟩
 ·rw[<- h3,vF,if_neg omg]
theorem Kh6 (p:List Step) (hp:p.length<=140737488355328) (hn:∀ x∈p,x.name.length<=140737488355328):Det cx 16 [.p (.sl (Bb p))] [] (.p (.bool (decide (E9 p)))) []:=by
 (refine bgo func16 ?_;simp only[go_sem,simprocAttr]);refine SWP.loop (fun i:Nat=>⟨Ba 67 [(0,.p (.sl (Bb p))),(3,.p (.int .i64 i))],[]⟩) (fun i=>i<=p.length/\∀ x∈p.take i,Bc x) (fun i=>p.length - i) 0 Jqc ⟨Eat _,by simp⟩ ?_;rintro i ⟨h1,h3⟩;by_cases hi:¬ i<p.length
 ·have hc:((i:Int)<(p.length:Int))=False:=eq_false omg;(refine lws ?_;simp only[go_sem,simprocAttr,Aq,hc]);rw[Ead omg] at h3;by_cases hl:p.length<=20
  ·rw[decide_eq_true (show (p.length:Int)<=20 by omega),decide_eq_true ⟨hl,h3⟩]
  ·rw[decide_eq_false (show ¬ (p.length:Int)<=20 by omega),decide_eq_false (fun h=>hl h.1)]
 ·have hi:=Eaw.1 hi;obtain ⟨x,hx⟩:∃ x,p[i]? = some x:=⟨_,Eaa hi⟩
  have hg:=Dk hx;have hm':=Eae hx;have hc:((i:Int)<(p.length:Int))=True:=eq_true omg;have next:Bc x->∀ y∈p.take (i+1),Bc y:=fun hs y hy=>by
   rw[Ebh,hx] at hy;rcases Eau.1 hy with hy | hy
   ·exact h3 y hy
   ·simp at hy;subst hy;exact hs
  have bad:¬ Bc x->false=decide (E9 p):=fun hs=>(decide_eq_false fun h=>hs (h.2 x hm')).symm
  cases hpt:x.part
  ·(refine lws ?_;simp only[go_sem,simprocAttr,hc,Aq,hg,hpt,wi1 (i:=i) omg]);(repeat'(first|(apply iteI<;>intro h)|((refine Jqa (Kjj x.name (hn x hm')) ?_);simp only[go_sem,simprocAttr,wi1 (i:=i) omg])|fail))
   ·exact bad (fun hs=>by unfold Bc at hs;rw[hpt,if_neg sm] at hs;exact absurd hs.1 (by assumption))
   ·exact bad (fun hs=>by unfold Bc at hs;rw[hpt,if_neg sm] at hs;simp_all)
   ·refine ⟨i+1,⟨omg,next ?_⟩,omg,Jqc⟩;unfold Bc;rw[hpt,if_neg sm];exact ⟨omg,by simp_all⟩
  ·(refine lws ?_;simp only[go_sem,simprocAttr,hc,Aq,hg,hpt,wi1 (i:=i) omg]);(repeat'(apply iteI<;>intro h))
   ·exact bad (fun hs=>by unfold Bc at hs;rw[hpt,if_pos rfl] at hs;have e:x.name.length=0:=(by rw[hs.1];rfl);omega)
   ·exact bad (fun hs=>by unfold Bc at hs;rw[hpt,if_pos rfl] at hs;omega)
   ·exact bad (fun hs=>by unfold Bc at hs;rw[hpt,if_pos rfl] at hs;omega)
   ·refine ⟨i+1,⟨omg,next ?_⟩,omg,Jqc⟩;unfold Bc;rw[hpt,if_pos rfl];exact ⟨Ean omg,omg,omg⟩
theorem Kki (s:List UInt8) (hs:s.length<=140737488355328):Det cx 59 [.p (.str s)] [] (.p (.bool (decide (isWd s)))) []:=by
 (refine bgo func59 ?_;simp only[go_sem,simprocAttr]);refine SWP.loop (fun x:Nat×Nat=>⟨Ba 49 [(0,.p (.str s)),(3,.p (.int .i64 x.1))],[]⟩) (fun x=>x.1<=s.length/\s.length+1<=x.1+x.2/\wF s x.2 x.1=Dm s) (fun x=>s.length - x.1) (0,s.length+1) Jqc ⟨by simp,by simp,rfl⟩ ?_;rintro ⟨i,f⟩ ⟨h1,h2,h3⟩;simp only at h1 h2 h3;obtain ⟨g,rfl⟩:∃ g,f=g+1:=⟨f - 1,omg⟩
 rw[wF] at h3;(refine lws ?_;simp only[go_sem,simprocAttr,wi1 (i:=i) omg]);(repeat'(first|(apply iteI<;>intro h)|refine Jqj ?_|(exfalso;omega)))
 all_goals first
  | exact ⟨(i+1,g),⟨by simp only;omega,by simp only;omega,by simp only;rw[<- h3,if_pos ⟨omg,by unfold letP figP;omega⟩]⟩,by simp only;omega,Jqc⟩
  | (
   have hc:¬ (i<s.length/\(letP (at_ s i)\/(0<i/\figP (at_ s i)))):=by unfold letP figP;omega
   rw[if_neg hc] at h3;exact (decide_eq_false (fun hw=>by have:=hw.2;omega)).symm)
  | skip
 have hc:¬ (i<s.length/\(letP (at_ s i)\/(0<i/\figP (at_ s i)))):=fun h=>by have:=h.1;omega
 rw[if_neg hc] at h3;have hwl:Dm s=s.length:=by omega
 cases s with
 | nil=>simp[isWd]
 | cons c t =>
  have:isWd (c :: t):=⟨by simp,hwl⟩
  simp[this]
theorem Kks (s:List UInt8) (hs:s.length<=140737488355328):Det cx 60 [.p (.str s)] [] (.p (.str (refQ s))) []:=by
 (refine bgo func60 ?_;simp only[go_sem,simprocAttr]);refine SWP.loop (fun i:Nat=>⟨Ba 19 [(0,.p (.str s)),(3,.p (.str (34 :: wrs (s.take i)))),(4,.p (.int .i64 i))],[]⟩) (fun i=>i<=s.length) (fun i=>s.length - i) 0 Jqc (Eat _) ?_;rintro i h1;have hw:=Jlg (s.take i);have hl:(s.take i).length<=s.length:=List.length_take_le' ..
 have hr:=Kk1 (at_ s i);(refine lws ?_;simp only[go_sem,simprocAttr,wi1 (i:=i) omg]);(repeat'(first|(apply iteI<;>intro h)|refine Jqj ?_|((refine Jqa (Kcp _ (Fr s i)) ?_);simp only[go_sem,simprocAttr,wi1 (i:=i) omg])|fail))
 ·refine ⟨i+1,omg,omg,?_⟩;rw[Kfi omg];exact Jqc
 ·rw[Ead omg];rfl
theorem Kkm {x:Step} (h:Bc x) (hn:x.name.length<=140737488355328):(Bv x).length<=1000000000000000:=by
 have h1:=Jd4 x.name;unfold Bc at h;unfold Bv;split
 ·rename_i hp;rw[if_pos hp] at h;have:=Jc8 h.2.1 h.2.2;simp;omega
 ·split<;>simp<;>omega
theorem Kkz {p:List Step} (h:∀ x∈p,Bc x) (hn:∀ x∈p,x.name.length<=140737488355328):(Br p).length<=1000000000000000 * p.length:=by
 induction p with
 | nil=>simp[Br]
 | cons x p ih =>
  have h1:=ih (fun y hy=>h y (Eah _ hy)) (fun y hy=>hn y (Eah _ hy));have h2:=Kkm (h x Eag) (hn x Eag);unfold Br at *
  rw[List.flatMap_cons,Eac,Eaf];omega
theorem Kky {p:List Step} (h:∀ x∈p,Bc x) (hn:∀ x∈p,x.name.length<=140737488355328):(Kkc p).length<=1000000000000000 * p.length+1:=by
 have:=Kkz h hn;cases p with
 | nil=>simp[Kkc]
 | cons y p =>
  show (if y.part=true then 46 :: Br (y :: p) else Br (y :: p)).length<=_;split
  ·rw[Eaf];omega
  ·omega
theorem Kkv (p:List Step) (hp:p.length<=100) (hok:∀ x∈p,Bc x) (hn:∀ x∈p,x.name.length<=140737488355328):Det cx 17 [.p (.sl (Bb p))] [] (.p (.str (Hy p))) []:=by
 by_cases he:p=[]
 ·subst he;have h0:(Bb []).length=0:=rfl;(refine bgo func17 ?_;simp only[go_sem,simprocAttr,h0]);rfl
 ·have h0:=Aq p;have hl:p.length≠0:=fun h=>he (Ean h)
  (refine bgo func17 ?_;simp only[go_sem,simprocAttr,Aq]);(repeat'(first|(apply iteI<;>intro h)|(exfalso;omega)));refine SWP.loop (fun i:Nat=>⟨Ba 55 [(0,.p (.sl (Bb p))),(3,.p (.str (Kkc (p.take i)))),(4,.p (.int .i64 i))],[]⟩) (fun i=>i<=p.length) (fun i=>p.length - i) 0 (by rw[show Kkc (p.take 0)=[] from rfl];exact Jqc) (Eat _) ?_;rintro i hi;have hT:=Kky (p:=p.take i) (fun x hx=>hok x (Ebi hx)) (fun x hx=>hn x (Ebi hx));rw[Eas] at hT;by_cases hlt:¬ i<p.length
  ·have hc:((i:Int)<(p.length:Int))=False:=eq_false omg;have htl:p.take i=p:=Ead omg;rw[htl] at hT ⊢;have hg:=hc;have hpt:=hc;have hw:=hc;have hdw:=hc;(refine lws ?_;simp only[go_sem,simprocAttr,Aq,Aq,hc]);rw[Kku he]
  ·have hlt:=Eaw.1 hlt;obtain ⟨x,hx⟩:∃ x,p[i]? = some x:=⟨_,Eaa hlt⟩
   have hg:=Dk hx;have hm':=Eae hx;have hc:((i:Int)<(p.length:Int))=True:=eq_true omg;have hox:=hok x hm';have hnx:=hn x hm';have hS:=Kkm hox hnx;have hw:=wi1 (i:=i) omg;have hQ:=Jd4 x.name;have hnext:i≠0->Kkc (p.take (i+1))=Kkc (p.take i) ++ Bv x:=fun h=>by
    rw[Ebh,hx,Option.toList_some,Kkw];intro e;have:=congrArg List.length e;rw[Eas,Ebe] at this;omega
   have hfirst:i=0->Kkc (p.take (i+1))=(if x.part=true then 46 :: Bv x else Bv x)/\Kkc (p.take i)=[]:=fun h=>by
    subst h;cases p with
    | nil=>simp at hx
    | cons y p =>
     simp at hx;subst hx;refine ⟨?_,rfl⟩;show (if y.part=true then 46 :: Br [y] else Br [y])=_;rw[Jeq]
   cases hpt:x.part
   ·unfold Bc at hox;rw[if_neg (by simp[hpt])] at hox;by_cases hwd:isWd x.name
    ·have hst:Bv x=46 :: x.name:=by unfold Bv;rw[if_neg (by simp[hpt]),if_pos hwd]
     have hdw:decide (isWd x.name)=true:=decide_eq_true hwd;(refine lws ?_;simp only[go_sem,simprocAttr,Aq,Aq,hc,hg,hpt]);(repeat'(first|refine Jqj ?_|((refine Jqa (Kki x.name omg) ?_);simp only[go_sem,simprocAttr,hg,hpt,hw,hdw])|fail));by_cases hi0:i=0
     ·obtain ⟨hf1,hf2⟩:=hfirst hi0;rw[if_neg (by simp[hpt]),hst] at hf1;rw[hf2];refine ⟨by simp;omega,i+1,omg,omg,?_⟩;rw[hf1];exact Jqc
     ·have hn1:=hnext hi0;rw[hst] at hn1;refine ⟨by simp;omega,i+1,omg,omg,?_⟩;rw[hn1];simp only[Ea2,Ea8,List.nil_append];exact Jqc
    ·have hst:Bv x=46 :: refQ x.name:=by unfold Bv;rw[if_neg (by simp[hpt]),if_neg hwd]
     have hdw:decide (isWd x.name)=false:=decide_eq_false hwd;(refine lws ?_;simp only[go_sem,simprocAttr,Aq,Aq,hc,hg,hpt]);(repeat'(first|refine Jqj ?_|((first|(refine Jqa (Kki x.name omg) ?_)|(refine Jqa (Kks x.name omg) ?_));simp only[go_sem,simprocAttr,hg,hpt,hw,hdw])|fail));by_cases hi0:i=0
     ·obtain ⟨hf1,hf2⟩:=hfirst hi0;rw[if_neg (by simp[hpt]),hst] at hf1;rw[hf2];refine ⟨by simp;omega,i+1,omg,omg,?_⟩;rw[hf1];exact Jqc
     ·have hn1:=hnext hi0;rw[hst] at hn1;refine ⟨by simp;omega,i+1,omg,omg,?_⟩;rw[hn1];simp only[Ea2,Ea8,List.nil_append];exact Jqc
   ·have hst:Bv x=91 :: (Lib.itoa x.n ++ [93]):=by unfold Bv;rw[if_pos hpt]
    have hb:0<=x.n/\x.n<=1000000:=by unfold Bc at hox;rw[if_pos hpt] at hox;exact hox.2
    have hil:=Jc8 hb.1 hb.2;obtain ⟨k,hk⟩:∃ k:Nat,x.n=k:=⟨x.n.toNat,omg⟩
    have hdw:=hk;rw[hk,Lib.itoa_nonneg] at hil hst;(refine lws ?_;simp only[go_sem,simprocAttr,Aq,Aq,hc,hg,hpt,hdw]);(repeat'(first|(apply iteI<;>intro h)|refine Jqj ?_|((refine Jqa (Kdg k omg) ?_);simp only[go_sem,simprocAttr,hw])|fail))
    ·have hi0:i=0:=by omega
     obtain ⟨hf1,hf2⟩:=hfirst hi0;rw[if_pos hpt,hst] at hf1;refine ⟨i+1,omg,omg,?_⟩;rw[hf1];exact Jqc
    ·have hn1:=hnext omg;rw[hst] at hn1;refine ⟨by simp;omega,by simp;omega,i+1,omg,omg,?_⟩;rw[hn1];simp only[Ea2,Ea8,List.nil_append];exact Jqc
theorem Kkt (v:List YRow) (hv:v.length * 120<=140737488351232):Det cx 15 [.p (.agg [.int .i64 7,.int .i64 0,.str [],.str [],.int .i64 0,.int .i64 0,.int .i64 0,.str [],.str [],.bool false,.int .i64 0]),.p .snil,.p (.sl [[.sl (rowL v)]])] [] (.p (.sl (rowL (⟨7,1,[],[],0,Juf⟩ :: v)))) []:=by
 have hst:rowL [⟨7,1,[],[],0,Juf⟩]=[[.int .i64 7,.int .i64 1,.str [],.str [],.int .i64 0,.int .i64 0,.int .i64 0,.str [],.str [],.bool false,.int .i64 0]]:=rfl;have hg:([[PV.sl (rowL v)]]:List (List PV))[0]? = some [.sl (rowL v)]:=rfl;(refine bgo func15 ?_;simp only[go_sem,simprocAttr]);refine SWP.loop (fun i:Nat=>⟨Ba 47 [(1,.p .snil),(2,.p (.sl [[.sl (rowL v)]])),(7,.own 15 0 (if i=0 then 1 else v.length+1)),(8,.p (.int .i64 i))],[(15,.row 38 11 (rowL (⟨7,1,[],[],0,Juf⟩ :: if i=0 then [] else v)))]⟩) (fun i=>i<=1) (fun i=>1 - i) 0 (by simp only[if_true];rw[hst];exact Jqc) (Eat _) ?_;rintro i hi;rcases (by omega:i=0\/i=1) with rfl | rfl
 ·have c1:(((0:Nat):Int)<1)=True:=eq_true omg;have e1:rowL (⟨7,1,[],[],0,Juf⟩ :: v)=rowL [⟨7,1,[],[],0,Juf⟩] ++ rowL v:=rfl;have hpl:(rowL [⟨7,1,[],[],0,Juf⟩]).length=1:=rfl;have w1:IntKind.i64.wrap 1=1:=by decide
  simp only[if_true];(refine lws ?_;simp only[go_sem,simprocAttr,hg,hpl,w1,Jq0]);(repeat'(first|(refine And.intro (by first|(simp;done)|(simp;omega) | omega | (intro q hq;exact J1h _ q hq)) ?_)|fail));refine ⟨1,omg,omg,?_⟩;refine (B1 [(29,15)] _ sm).trans ?_;simp only[go_sem,simprocAttr];rw[e1,Ecu v.length 1];exact Jqc
 ·have c1:(((1:Nat):Int)<1)=False:=eq_false omg;have hpl:(rowL (⟨7,1,[],[],0,Juf⟩ :: v)).length=v.length+1:=by rw[Jq0];rfl
  have htk:(rowL (⟨7,1,[],[],0,Juf⟩ :: v)).take (v.length+1)=rowL (⟨7,1,[],[],0,Juf⟩ :: v):=Ead (by rw[hpl];exact Eaj _);rw[if_neg de,if_neg de];(refine lws ?_;simp only[go_sem,simprocAttr,hpl,htk,Eaj])
  skip
attribute [go_sem] ntmps4 results4
theorem Kkx {v:List YRow} (h:Jvn (⟨7,1,[],[],0,Juf⟩ :: v) 40=true):∃ p:RT,okQ p/\Jrm p.kind/\v=p.enc []/\(p.enc []).length<=40/\FitQ p:=by
 obtain ⟨⟨k,s,n,c,kids⟩,ho,hc,he,hl,hf⟩:=J0m h;rw[Jqs] at he hl;injection he with h1 h2
 injection h1 with h3 h4 h5 h6 h7 h8
 subst h3;obtain ⟨_,⟨g1,_,_⟩,g3⟩:=Jwl.1 ho
 match kids,h4,h2,g1,g3,hf,hl with
 | .nil,h4,_,_,_,_,_=>simp[RF.len] at h4
 | .cons a p (.cons b q r),h4,_,_,_,_,_=>simp only[RF.len] at h4;omega
 | .cons nm p .nil,_,h2,g1,g3,hf,hl =>
  have q1:=g1 (nm,p) (by simp[RF.list]);have e1:nm=[]:=q1.2.1 omg;subst e1;obtain ⟨g4,_⟩:=Jvi.1 g3;have hf2:=(Jsj hf (p:=([],p)) (by simp[RF.list])).2;rw[Jqv,Jsd,Ea5] at h2 hl;exact ⟨p,g4,q1.1.2 (.inr rfl),h2,by rw[Eaf] at hl;omega,hf2⟩
theorem Kkr (a:List YRow) (q:List Step) (u:List Node) (ha:FiFitW a) (hq:PathFit q) (hu:ValFit u):Det cx 4 [.p (.sl (rowL a)),.p (.sl (Bb q)),.p (.sl (valL u))] [] (.p (.bool true)) []:=by
 have hM:=Kkt a ha.reach;have hr:=ha.reach;have hG:=J5i (⟨7,1,[],[],0,Juf⟩ :: a) u ⟨by rw[Eaf];omega,fun n hn=>by
  rcases Eam.1 hn with rfl | hn
  ·exact ⟨by simp,by simp,by simp[Juf],by simp[Juf],by simp[Juf]⟩
  ·exact ha.row n hn⟩ hu
 cases b1:Jvn (⟨7,1,[],[],0,Juf⟩ :: a) 40 with
 | false =>
  rw[b1,Bool.false_and] at hG;generalize rowL (⟨7,1,[],[],0,Juf⟩ :: a)=W at *
  generalize rowL a=A at *
  (refine bgo func4 ?_;simp only[go_sem,simprocAttr]);(repeat'(first|((first|refine Jqa hM ?_|refine Jqa hG ?_|refine Jqa Jsw ?_);simp only[go_sem,simprocAttr])|fail))
 | true =>
 cases b2:fewB u 40 with
 | false =>
  rw[b1,b2] at hG;generalize rowL (⟨7,1,[],[],0,Juf⟩ :: a)=W at *
  generalize rowL a=A at *
  (refine bgo func4 ?_;simp only[go_sem,simprocAttr]);(repeat'(first|((first|refine Jqa hM ?_|refine Jqa hG ?_|refine Jqa Jsw ?_);simp only[go_sem,simprocAttr])|fail))
 | true =>
 rw[b1,b2] at hG;obtain ⟨p,po,pc,rfl,pl,pf⟩:=Kkx b1;obtain ⟨x,hx,rfl,hxl,hxf⟩:=Fw hu b2;have hgx:GT x:=⟨hx,hxf⟩
 have H1:=J25 _ p (Eaj _) po pc pf omg x hgx omg;have H2:=J5f _ p (Eaj _) po pc pf omg x hgx omg;generalize rowL (⟨7,1,[],[],0,Juf⟩ :: p.enc [])=W at *
 generalize rowL (p.enc [])=A at *
 generalize resB (Jrf p x)=B at *
 generalize resC (Jrf p x)=C at *
 have hR:=Kh6 q hq.len hq.name;by_cases o2:E9 q
 case neg =>
  rw[decide_eq_false o2] at hR;(refine bgo func4 ?_;simp only[go_sem,simprocAttr]);(repeat'(first|((first|refine Jqa hM ?_|refine Jqa hG ?_|refine Jqa hR ?_|refine Jqa Jsw ?_);simp only[go_sem,simprocAttr])|fail))
 case pos =>
 rw[decide_eq_true o2] at hR;obtain ⟨l2,o2⟩:=o2;have hT:=Kkv q omg o2 hq.name;generalize Hy q=T at *
 by_cases h200:T.length<=200
 case neg =>
  have c1:((200:Int)<(T.length:Int))=True:=eq_true omg;(refine bgo func4 ?_;simp only[go_sem,simprocAttr]);(repeat'(first|((first|refine Jqa hM ?_|refine Jqa hG ?_|refine Jqa hR ?_|refine Jqa hT ?_|refine Jqa Jsw ?_);simp only[go_sem,simprocAttr,c1])|fail))
 case pos =>
 have c1:((200:Int)<(T.length:Int))=False:=eq_false omg;have F1:=J40 q x omg o2 hx omg;have F2:=Jvv q x omg o2 omg;have D1:=Jz5 q x omg o2 hgx omg;have D2:=J13 q x omg o2 hgx omg;have same:∀ r:Except Nat Tree,(∀ y,r=.ok y->(y.enc []).length<=1000)->Det cx 14 [.p (resV r),.p (resV r)] [] (.p (.bool true)) []:=fun r hr=>by
  cases r with
  | error e=>exact Jz
  | ok y =>
   have:=Kkl (y.enc []) (y.enc []) (by have:=hr y rfl;omega) (by have:=hr y rfl;omega);rw[decide_eq_true rfl] at this;exact this
 have S1:=same (Jrd q x) fun y hy=>by have:=Jxh hy;omega
 have S2:=same (delT q x) fun y hy=>by have:=(J30 hgx hy).2;omega
 rw[Jqz] at F1 F2 D1 D2;generalize resV (Jrd q x)=V1 at *
 generalize resE (Jrd q x)=E1 at *
 generalize resV (delT q x)=V2 at *
 generalize resE (delT q x)=E2 at *
 (refine bgo func4 ?_;simp only[go_sem,simprocAttr,beq_self_eq_true]);(repeat'(first|((first|refine Jqa hM ?_|refine Jqa hG ?_|refine Jqa hR ?_|refine Jqa hT ?_|refine Jqa H1 ?_|refine Jqa H2 ?_|refine Jqa F1 ?_|refine Jqa F2 ?_|refine Jqa D1 ?_|refine Jqa D2 ?_|refine Jqa S1 ?_|refine Jqa S2 ?_|refine Jqa Jsw ?_);simp only[go_sem,simprocAttr,c1,beq_self_eq_true])|fail))
end Go.LX
