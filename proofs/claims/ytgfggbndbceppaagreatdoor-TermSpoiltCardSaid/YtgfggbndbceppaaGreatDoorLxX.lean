/- Filters, the program: parts' texts. -/
import Derived.Test.YtgfggbndbceppaaGreatDoorLxW
import Derived.Test.YtgfggbndbceppaaGreatDoorLxT
import Derived.Test.YtgfggbndbceppaaGreatDoorLxV
import Derived.Test.YtgfggbndbceppaaGreatDoorLxU
import Derived.Test.YtgfggbndbceppaaGreatDoorLxO
set_option linter.unusedSimpArgs false
set_option linter.unusedVariables false
set_option linter.unusedSectionVars false
set_option linter.unnecessarySimpa false
set_option maxRecDepth 100000
set_option maxHeartbeats 2000000
namespace Go.LX
open Go Go.RowKit Go.Proofs
attribute [local irreducible] Al SWP Bi
@[go_sem] theorem f_ba6 {parts:List (Nat×L)} {K:L→Prop}:Vf Tryz.prog 76 parts K=(Tryz.prog.cellsOf 9=1∧6=parts.length∧zok (Bu Tryz.prog 76) 6∧Bq (Jt8 0 parts) (kagg K)):=J02 f_u76
def Jvs (n:Nat):Prop:=∀ (t:RT) (nm:List UInt8),okQ t→fitQ t→(t.enc nm).length≤n→Det cx 21 [.p (.sl (rowL (t.enc nm)))] [] (.p (.str (Jql t))) []
theorem J0o (n:Nat) (hn2:n≤10000) (H:Jvs n) (t:RT) (ho:okQ t) (hf:fitQ t) (hn:(t.enc []).length≤n):Det cx 55 [.p (.sl (rowL (t.enc [])))] [] (.p (.str (inBr t.kind (Jql t)))) []:=by
 have hT:=H t [] ho hf hn;have hl:=Jre t hf [];obtain ⟨k,s,g,c,kids⟩:=t;have hg0:(rowL ((RT.mk k s g c kids).enc []))[0]? = some [.int .i64 k,.int .i64 kids.len,.str [],.str s,.int .i64 g,.int .i64 c.kind,.int .i64 c.many,.str c.name,.str c.s,.bool c.neg,.int .i64 c.e]:=by rw [Jqk];rfl
 have hl2:(Jql (.mk k s g c kids)).length≤21000000:=by omega
 simp only [RT.kind];clear hl hn;generalize Jql (.mk k s g c kids)=x at hT hl2 ⊢;generalize rowL ((RT.mk k s g c kids).enc [])=rows at hT hg0 ⊢;unfold inBr;by_cases h4:k=4
 ·have e:=eq_true h4;rw [if_pos (.inl h4)];(refine bgo Tryz.func55 ?_;simp only [go_sem,simprocAttr,hg0,e]);(repeat' (first | (refine Jqd ?_)|((refine Jqa (hT) ?_);simp only [go_sem,simprocAttr]) | fail))
  all_goals omega
 by_cases h17:k=17
 ·have e:=eq_true h17;have e':=eq_false h4;rw [if_pos (.inr (.inl h17))];(refine bgo Tryz.func55 ?_;simp only [go_sem,simprocAttr,hg0,e,e']);(repeat' (first | (refine Jqd ?_)|((refine Jqa (hT) ?_);simp only [go_sem,simprocAttr]) | fail))
  all_goals omega
 by_cases h18:k=18
 ·have e:=eq_true h18;have e':=eq_false h4;have e'':=eq_false h17;rw [if_pos (.inr (.inr h18))];(refine bgo Tryz.func55 ?_;simp only [go_sem,simprocAttr,hg0,e,e',e'']);(repeat' (first | (refine Jqd ?_)|((refine Jqa (hT) ?_);simp only [go_sem,simprocAttr]) | fail))
  all_goals omega
 ·have e:=eq_false h18;have e':=eq_false h4;have e'':=eq_false h17;rw [if_neg omg];(refine bgo Tryz.func55 ?_;simp only [go_sem,simprocAttr,hg0,e,e',e'']);(repeat' (first | ((refine Jqa (hT) ?_);simp only [go_sem,simprocAttr]) | fail))
def oneL (k:Int) (l:List PTx):List (List PV):=Jta (l.map (oneT k))
theorem Jvw (k:Int) (l:List PTx):(oneL k l).length=l.length:=by simp [oneL]
theorem J4n {k:Int} {l:List PTx} {i:Nat} {p:PTx} (h:l[i]? = some p):oneL k (l.take (i+1))=oneL k (l.take i) ++ [[.str (oneT k p)]]:=by
 unfold oneL Jta;rw [List.take_add_one,h];simp
theorem J4e (n:Nat) (hn2:n≤10000) (H:Jvs n) (nm:List UInt8) (k:Int) (s:List UInt8) (g:Int) (c:Node) (kids:RF) (ho:okQF kids) (hv8:k=8→∀ p∈kids.list,valid p.1=true) (hf:Jro kids) (hn:kids.enc.length≤n) (sep:List UInt8) (hsep:sep.length≤5):Det cx 56 [.p (.sl (rowL ((RT.mk k s g c kids).enc nm))),.p (.str sep)] [] (.p (.str (Jri k (Jqg kids) sep))) []:=by
 have hE:=J3l ((RT.mk k s g c kids).enc nm);have hIt:=J3i nm k s g c kids omg;have hg0:(rowL ((RT.mk k s g c kids).enc nm))[0]? = some [.int .i64 k,.int .i64 kids.len,.str nm,.str s,.int .i64 g,.int .i64 c.kind,.int .i64 c.many,.str c.name,.str c.s,.bool c.neg,.int .i64 c.e]:=by rw [Jqk];rfl
 generalize rowL ((RT.mk k s g c kids).enc nm)=rows at hE hIt hg0 ⊢;obtain ⟨hq1,hq2⟩:=Jsz kids hf;have hql:=Js1 kids;have hll:=Jqx kids;have hle:=Jqz kids;(refine bgo Tryz.func56 ?_;simp only [go_sem,simprocAttr]);(repeat' (first | ((refine Jqa (hE) ?_);simp only [go_sem,simprocAttr]) | fail));(refine SWP.range (Jr4 kids) 37 [(33,900)] sm _ _ _ _ _ (fun i R=>R=if i=0 then [(1000,.var 59 [.p .snil]),(1001,.var 23 [.p (.sl rows)])] else [(900,.row 9 1 (oneL k ((Jqg kids).take i))),(1000,.var 59 [.own 900 0 i]),(1001,.var 23 [.p (.sl rows)])]) (fun _ _=>False) (by rfl) (by rfl) (by rfl) (hIt) (by simp only [go_sem,simprocAttr] <;> rfl) (by first | rfl | simp [Cg]) sm ?hps (by simp only [go_sem,simprocAttr] <;> rfl) (by simp only [go_sem,simprocAttr] <;> rfl) (by simp only [go_sem,simprocAttr] <;> rfl) ?h0 ?hkI ?hkS ?hSn ?round ?done ?stop)
 case hps=>exact fun x hx=>Jvc hx
 case h0=>rfl
 case hkI=>rintro i R rfl;split <;> simp [Hg,findKey]
 case hkS=>exact fun _ _ h=>h.elim
 case hSn=>exact fun _ h=>h
 case stop=>exact fun _ _ h=>h.elim
 case round =>
  rintro i x R l hx rfl;obtain ⟨p,hp,rfl⟩:=Jvu hx;have hpm:=List.mem_of_getElem? hp;have hil:=(List.getElem?_eq_some_iff.1 hp).1;have hgq:=Jxv hp;obtain ⟨f1,f2⟩:=Jts hf hpm;have hIn:=J0o n hn2 H p.2 (Juf.1 ho p hpm) f2 (by have:=Jsn hpm;rw [Jrk] at this;omega);have htk:=J4n (k:=k) hgq;have hz:(inBr p.2.kind (Jql p.2)).length≤21000002:=by
   have h1:=Juv p.2.kind (Jql p.2);have h2:=Jre p.2 f2 [];have h3:=Jsn hpm;rw [Jrk] at h3;omega
  have b3:=Jz8 p.1;by_cases h8:k=8
  ·have e8:=eq_true h8;have ho1:oneT k (p.1,p.2.kind,Jql p.2)=nmT p.1 ++ [58,32] ++ inBr p.2.kind (Jql p.2):=by unfold oneT;rw [if_pos h8]
   rw [ho1] at htk;have hTx:Det cx 53 [.p (.sl [[.bool false,.str p.1,.int .i64 0]])] [] (.p (.str (46 :: nmT p.1))) []:=by
    rw [← Ju5];exact Ui [⟨false,p.1,0⟩] sm (by intro x hx;simp only [List.mem_singleton] at hx;subst hx;unfold Bc;rw [if_neg sm];exact ⟨rfl,hv8 h8 p hpm⟩) (by intro x hx;simp only [List.mem_singleton] at hx;subst hx;show p.1.length≤1000;omega)
   generalize nmT p.1=y at *
   generalize inBr p.2.kind (Jql p.2)=z at *
   by_cases h0:i=0
   ·subst h0;rw [if_pos rfl];simp only [go_sem,simprocAttr];(refine lws ?_;simp only [go_sem,simprocAttr]);(repeat' (first | (refine And.intro (by simp only [List.length_append,List.length_cons,List.length_nil];omega) ?_)|(refine Jqd ?_)|((first | (refine Jqa (hIn) ?_)|(refine Jqa (hTx) ?_));simp only [go_sem,simprocAttr,hg0,e8]) | fail));refine ⟨by simp,_,rfl,?_⟩;rw [htk,show oneL k ((Jqg kids).take 0)=[] from rfl];exact (Jqy (by simp only [Ar]) (by simp (disch:=omega) [Az,A3,Aw,Am,Af,Ai,Au,Aa]) (by simp [Ay]))
   ·rw [if_neg h0];simp only [go_sem,simprocAttr];(refine lws ?_;simp only [go_sem,simprocAttr]);(repeat' (first | (refine And.intro (by simp only [List.length_append,List.length_cons,List.length_nil];omega) ?_)|(refine Jqd ?_)|((first | (refine Jqa (hIn) ?_)|(refine Jqa (hTx) ?_));simp only [go_sem,simprocAttr,hg0,e8]) | fail));refine ⟨by simp,by rw [Jvw,List.length_take];omega,by omega,by omega,_,rfl,?_⟩;rw [htk];exact (Jqy (by simp only [Ar]) (by simp (disch:=omega) [Az,A3,Aw,Am,Af,Ai,Au,Aa]) (by simp [Ay]))
  ·have e8:=eq_false h8;have ho1:oneT k (p.1,p.2.kind,Jql p.2)=inBr p.2.kind (Jql p.2):=by unfold oneT;rw [if_neg h8]
   rw [ho1] at htk;generalize inBr p.2.kind (Jql p.2)=z at *
   by_cases h0:i=0
   ·subst h0;rw [if_pos rfl];simp only [go_sem,simprocAttr];(refine lws ?_;simp only [go_sem,simprocAttr]);(repeat' (first | ((refine Jqa (hIn) ?_);simp only [go_sem,simprocAttr,hg0,e8]) | fail));refine ⟨by simp,_,rfl,?_⟩;rw [htk,show oneL k ((Jqg kids).take 0)=[] from rfl];exact (Jqy (by simp only [Ar]) (by simp (disch:=omega) [Az,A3,Aw,Am,Af,Ai,Au,Aa]) (by simp [Ay]))
   ·rw [if_neg h0];simp only [go_sem,simprocAttr];(refine lws ?_;simp only [go_sem,simprocAttr]);(repeat' (first | ((refine Jqa (hIn) ?_);simp only [go_sem,simprocAttr,hg0,e8]) | fail));refine ⟨by simp,by rw [Jvw,List.length_take];omega,by omega,by omega,_,rfl,?_⟩;rw [htk];exact (Jqy (by simp only [Ar]) (by simp (disch:=omega) [Az,A3,Aw,Am,Af,Ai,Au,Aa]) (by simp [Ay]))
 case done =>
  rintro R rfl;rw [Jt2];have hB:(Jse sep ((Jqg kids).map (oneT k))).length≤21000000:=by
   have:=Js4 (op:=k) hsep hq1;unfold Jri at this;rw [hql] at this;omega
  have hJ:=d_Join ((Jqg kids).map (oneT k)) sep (by rw [List.length_map];omega) omg;by_cases hk:kids.len=0
  ·rw [if_pos hk];have hnil:Jqg kids=[]:=List.eq_nil_of_length_eq_zero omg;rw [hnil] at hJ ⊢;rw [show Jta (([]:List PTx).map (oneT k))=[] from rfl] at hJ;simp only [go_sem,simprocAttr];refine ⟨⟨Ba 37 [(1,.p (.str sep)),(5,.ptr 5 0 0)],[(5,.var 59 [.p (.sl [])])]⟩,Jqe,?_⟩;simp only [go_sem,simprocAttr];(repeat' (first | ((refine Jqa (hJ) ?_);simp only [go_sem,simprocAttr]) | fail));rfl
  ·rw [if_neg hk];have htk:(Jqg kids).take kids.len=Jqg kids:=List.take_of_length_le omg;rw [htk];have hpl:(kids.len≤(oneL k (Jqg kids)).length)=True:=eq_true (by rw [Jvw];omega);have hpt:(oneL k (Jqg kids)).take kids.len=oneL k (Jqg kids):=List.take_of_length_le (by rw [Jvw];omega);simp only [go_sem,simprocAttr];refine ⟨_,St.Le.refl _,?_⟩;simp only [go_sem,simprocAttr,hpl,hpt];(repeat' (first | ((refine Jqa (hJ) ?_);simp only [go_sem,simprocAttr]) | fail));rfl
theorem J53 (n:Nat) (hn2:n<10000) (H:Jvs n):Jvs (n+1):=by
 intro t nm ho hf hn;obtain ⟨k,s,g,c,kids⟩:=t;have hP:=Jua nm k s g c kids (by rw [Jqk,List.length_cons] at hn;omega);have hg0:(rowL ((RT.mk k s g c kids).enc nm))[0]? = some [.int .i64 k,.int .i64 kids.len,.str nm,.str s,.int .i64 g,.int .i64 c.kind,.int .i64 c.many,.str c.name,.str c.s,.bool c.neg,.int .i64 c.e]:=by rw [Jqk];rfl
 obtain ⟨h1,h2,h3⟩:=Jru.1 ho;have hf':=hf;rw [fitQ] at hf';obtain ⟨⟨f1,fc,fn0,fn1,fe0,fe1⟩,f2⟩:=hf';have hkn:kids.enc.length≤n:=by rw [Jqk,List.length_cons] at hn;omega
 have hJ:=fun sep hsep=>J4e n omg H nm k s g c kids h3 (fun h8 p hp=>((h2.1 p hp).2.2 h8)) f2 hkn sep hsep
 have hCl:=J6j;have hq:=Jsz kids f2;have hjl:∀ sep:List UInt8,sep.length≤5→(Jri k (Jqg kids) sep).length≤21000000:=fun sep hsep=>by
  have:=Js4 (op:=k) hsep hq.1;have h5:=Js1 kids;rw [h5] at this;omega
 generalize rowL ((RT.mk k s g c kids).enc nm)=rows at *
 have hkk:=J19 h1;rw [Jr0];by_cases k0:k=0
 ·subst k0;obtain ⟨rfl,rfl,rfl,hm0⟩:=Jtk omg h1;obtain rfl:=Jtl hm0;rw [show Jqq RF.nil.list=[] from rfl] at hP;(refine bgo Tryz.func21 ?_;simp only [go_sem,simprocAttr,hg0,Q9]);(repeat' (first | ((refine Jqa (hP) ?_);simp only [go_sem,simprocAttr]) | fail))
  all_goals (first | omega | rfl | (simp only [List.length_append,List.length_cons,List.length_nil];omega) | simp [Jqm,Jra,Jqw,Jrb])
 by_cases k1:k=1
 ·subst k1;obtain ⟨rfl,rfl,hm0,hvs⟩:=J1z h1;have hX:Det cx 53 [.p (.sl [[.bool false,.str s,.int .i64 0]])] [] (.p (.str (46 :: nmT s))) []:=by
   rw [← Ju5];exact Ui [⟨false,s,0⟩] sm (by intro x hx;simp only [List.mem_singleton] at hx;subst hx;exact (by unfold Bc;rw [if_neg sm];exact ⟨rfl,hvs⟩)) (by intro x hx;simp only [List.mem_singleton] at hx;subst hx;show s.length≤1000;omega)
  (refine bgo Tryz.func21 ?_;simp only [go_sem,simprocAttr,hg0,Q9]);(repeat' (first | ((first | (refine Jqa (hP) ?_)|(refine Jqa (hX) ?_));simp only [go_sem,simprocAttr,Q9]) | fail))
  all_goals (first | omega | rfl | (simp only [List.length_append,List.length_cons,List.length_nil];omega) | simp [Jqm,Jra,Jqw,Jrb])
 by_cases k2:k=2
 ·subst k2;obtain ⟨rfl,rfl,hm0,hg1,hg2⟩:=Jxh omg h1;obtain ⟨m,rfl⟩:∃ m:Nat,g=m:=⟨g.toNat,by omega⟩
  have hil:=Jrx fn0 fn1;have hX:Det cx 53 [.p (.sl [[.bool true,.str [],.int .i64 (m:Int)]])] [] (.p (.str ([46,91] ++ Lib.itoa m ++ [93]))) []:=by
   rw [← J30];exact Ui [⟨true,[],m⟩] sm (by intro x hx;simp only [List.mem_singleton] at hx;subst hx;exact (by unfold Bc;rw [if_pos rfl];exact ⟨rfl,by simp only;omega,by simp only;omega⟩)) (by intro x hx;simp only [List.mem_singleton] at hx;subst hx;simp)
  simp only [Jqm,Int.reduceEq,if_true,if_false,reduceIte,or_self,false_or,or_false];generalize Lib.itoa (m:Int)=x at hX hil ⊢;(refine bgo Tryz.func21 ?_;simp only [go_sem,simprocAttr,hg0,Q9]);(repeat' (first | ((first | (refine Jqa (hP) ?_)|(refine Jqa (hX) ?_));simp only [go_sem,simprocAttr,Q9]) | fail))
  all_goals (first | omega | rfl | (simp only [List.length_append,List.length_cons,List.length_nil];omega) | simp [Jqm,Jra,Jqw,Jrb])
 by_cases k3:k=3
 ·subst k3;obtain ⟨rfl,rfl,hm0,hg1,hg2⟩:=Jxh omg h1;obtain ⟨m,rfl⟩:∃ m:Nat,g=m:=⟨g.toNat,by omega⟩
  have hil:=Jrx fn0 fn1;have hX:=N0 (m:Int) omg omg;simp only [Jqm,Int.reduceEq,if_true,if_false,reduceIte,or_self,false_or,or_false];generalize Lib.itoa (m:Int)=x at hX hil ⊢;(refine bgo Tryz.func21 ?_;simp only [go_sem,simprocAttr,hg0,Q9]);(repeat' (first | (refine Jqd ?_)|((first | (refine Jqa (hP) ?_)|(refine Jqa (hX) ?_));simp only [go_sem,simprocAttr]) | fail))
  all_goals (first | omega | rfl | (simp only [List.length_append,List.length_cons,List.length_nil];omega) | simp [Jqm,Jra,Jqw,Jrb])
 by_cases k4:k=4
 ·subst k4;obtain ⟨rfl,rfl,rfl,hm2⟩:=J5e omg h1;obtain ⟨na,a,nb,b,rfl⟩:=J1e hm2;obtain ⟨g1,g2⟩:=Jqo.1 h3;have g3:=(Jqo.1 g2).1;rw [Jro,Jro] at f2;rw [Jqh,Jqh,Jq0,List.append_nil,List.length_append] at hkn;have la:=Jrk a na;have lb:=Jrk b nb;have hA:=J0o n omg H a g1 f2.2.1 omg;have hBt:=H b [] g3 f2.2.2.2.1 omg;have la2:=Jre a f2.2.1 [];have lb2:=Jre b f2.2.2.2.1 [];have la3:=Juv a.kind (Jql a);rw [show Jqq (RF.cons na a (.cons nb b .nil)).list=[[.sl (rowL (a.enc []))],[.sl (rowL (b.enc []))]] from rfl] at hP;rw [show Jqg (.cons na a (.cons nb b .nil))=[(na,a.kind,Jql a),(nb,b.kind,Jql b)] by rw [Jqg,Jqg,Jqg]];have la4:(inBr a.kind (Jql a)).length≤21000002:=by omega
  have lb4:(Jql b).length≤21000000:=by omega
  simp only [Jqm,Int.reduceEq,if_true,if_false,reduceIte,or_self,false_or,or_false];generalize inBr a.kind (Jql a)=x at hA la4 ⊢;generalize Jql b=y at hBt lb4 ⊢;(refine bgo Tryz.func21 ?_;simp only [go_sem,simprocAttr,hg0,Q9]);(repeat' (first | (refine Jqd ?_)|((first | (refine Jqi ?_)|(refine Jqa (hP) ?_)|(refine Jqb (hA) ?_)|(refine Jqb (hBt) ?_));simp only [go_sem,simprocAttr]) | fail))
  all_goals (first | omega | rfl | (simp only [List.length_append,List.length_cons,List.length_nil];omega) | simp [Jqm,Jra,Jqw,Jrb])
 by_cases k5:k=5
 ·subst k5;obtain ⟨rfl,rfl,rfl,hm1⟩:=Jwn omg h1;obtain ⟨nm',t,rfl⟩:=Juu hm1;have h3:=(Jqo.1 h3).1;rw [Jro] at f2;rw [Jqh,Jq0,List.append_nil] at hkn;have hT:=H t [] h3 f2.2.1 (by rw [Jrk];rw [Jrk] at hkn;exact hkn);have hl:=Jre t f2.2.1 nm';have hl2:(Jql t).length≤21000000:=by omega
  rw [show Jqq (RF.cons nm' t .nil).list=[[.sl (rowL (t.enc []))]] from rfl] at hP;rw [show Jqg (.cons nm' t .nil)=[(nm',t.kind,Jql t)] by rw [Jqg,Jqg]];generalize Jql t=x at hT hl2 ⊢;(refine bgo Tryz.func21 ?_;simp only [go_sem,simprocAttr,hg0,Q9]);(repeat' (first | (refine Jqd ?_)|((first | (refine Jqi ?_)|(refine Jqa (hP) ?_)|(refine Jqb (hCl) ?_)|(refine Jqa (hT) ?_));simp only [go_sem,simprocAttr,Cl,Lc,Q9,Js5]) | fail))
  all_goals (first | omega | rfl | (simp only [List.length_append,List.length_cons,List.length_nil];omega) | simp [Jqm,Jra,Jqw,Jrb])
 by_cases k6:k=6
 ·subst k6;obtain ⟨rfl,rfl,rfl,hm1⟩:=Jwn omg h1;obtain ⟨nm',t,rfl⟩:=Juu hm1;have h3:=(Jqo.1 h3).1;rw [Jro] at f2;rw [Jqh,Jq0,List.append_nil] at hkn;have hT:=H t [] h3 f2.2.1 (by rw [Jrk];rw [Jrk] at hkn;exact hkn);have hl:=Jre t f2.2.1 nm';have hl2:(Jql t).length≤21000000:=by omega
  rw [show Jqq (RF.cons nm' t .nil).list=[[.sl (rowL (t.enc []))]] from rfl] at hP;rw [show Jqg (.cons nm' t .nil)=[(nm',t.kind,Jql t)] by rw [Jqg,Jqg]];generalize Jql t=x at hT hl2 ⊢;(refine bgo Tryz.func21 ?_;simp only [go_sem,simprocAttr,hg0,Q9]);(repeat' (first | (refine Jqd ?_)|((first | (refine Jqi ?_)|(refine Jqa (hP) ?_)|(refine Jqb (hCl) ?_)|(refine Jqa (hT) ?_));simp only [go_sem,simprocAttr,Cl,Lc,Q9,Js5]) | fail))
  all_goals (first | omega | rfl | (simp only [List.length_append,List.length_cons,List.length_nil];omega) | simp [Jqm,Jra,Jqw,Jrb])
 by_cases k7:k=7
 ·subst k7;obtain ⟨rfl,rfl,rfl,hm1⟩:=Jwn omg h1;obtain ⟨nm',t,rfl⟩:=Juu hm1;have h3:=(Jqo.1 h3).1;rw [Jro] at f2;rw [Jqh,Jq0,List.append_nil] at hkn;have hT:=H t [] h3 f2.2.1 (by rw [Jrk];rw [Jrk] at hkn;exact hkn);have hl:=Jre t f2.2.1 nm';have hl2:(Jql t).length≤21000000:=by omega
  rw [show Jqq (RF.cons nm' t .nil).list=[[.sl (rowL (t.enc []))]] from rfl] at hP;rw [show Jqg (.cons nm' t .nil)=[(nm',t.kind,Jql t)] by rw [Jqg,Jqg]];generalize Jql t=x at hT hl2 ⊢;(refine bgo Tryz.func21 ?_;simp only [go_sem,simprocAttr,hg0,Q9]);(repeat' (first | (refine Jqd ?_)|((first | (refine Jqi ?_)|(refine Jqa (hP) ?_)|(refine Jqb (hCl) ?_)|(refine Jqa (hT) ?_));simp only [go_sem,simprocAttr,Cl,Lc,Q9,Js5]) | fail))
  all_goals (first | omega | rfl | (simp only [List.length_append,List.length_cons,List.length_nil];omega) | simp [Jqm,Jra,Jqw,Jrb])
 by_cases k8:k=8
 ·subst k8;have hX:=hJ [44,32] sm;have hxl:=hjl [44,32] sm;generalize hxe:Jri 8 (Jqg kids) [44,32]=x at hX hxl;(refine bgo Tryz.func21 ?_;simp only [go_sem,simprocAttr,hg0,Q9]);(repeat' (first | (refine Jqd ?_)|((first | (refine Jqa (hP) ?_)|(refine Jqa (hX) ?_));simp only [go_sem,simprocAttr]) | fail))
  all_goals (rw [← hxe];simp [Jqm])
 by_cases k9:k=9
 ·subst k9;have hX:=hJ [44,32] sm;have hxl:=hjl [44,32] sm;generalize hxe:Jri 9 (Jqg kids) [44,32]=x at hX hxl;(refine bgo Tryz.func21 ?_;simp only [go_sem,simprocAttr,hg0,Q9]);(repeat' (first | (refine Jqd ?_)|((first | (refine Jqa (hP) ?_)|(refine Jqa (hX) ?_));simp only [go_sem,simprocAttr]) | fail))
  all_goals (rw [← hxe];simp [Jqm])
 by_cases k10:k=10
 ·subst k10;obtain ⟨rfl,rfl,rfl,hm0⟩:=Jtk omg h1;obtain rfl:=Jtl hm0;rw [show Jqq RF.nil.list=[] from rfl] at hP;(refine bgo Tryz.func21 ?_;simp only [go_sem,simprocAttr,hg0,Q9]);(repeat' (first | ((first | (refine Jqi ?_)|(refine Jqa (hP) ?_)|(refine Jqb (hCl) ?_));simp only [go_sem,simprocAttr,Cl,Lc,Q9,Js5]) | fail))
  all_goals (first | omega | rfl | (simp only [List.length_append,List.length_cons,List.length_nil];omega) | simp [Jqm,Jra,Jqw,Jrb])
 by_cases k11:k=11
 ·subst k11;obtain ⟨rfl,rfl,rfl,hm0⟩:=Jtk omg h1;obtain rfl:=Jtl hm0;rw [show Jqq RF.nil.list=[] from rfl] at hP;(refine bgo Tryz.func21 ?_;simp only [go_sem,simprocAttr,hg0,Q9]);(repeat' (first | ((first | (refine Jqi ?_)|(refine Jqa (hP) ?_)|(refine Jqb (hCl) ?_));simp only [go_sem,simprocAttr,Cl,Lc,Q9,Js5]) | fail))
  all_goals (first | omega | rfl | (simp only [List.length_append,List.length_cons,List.length_nil];omega) | simp [Jqm,Jra,Jqw,Jrb])
 by_cases k12:k=12
 ·subst k12;obtain ⟨rfl,rfl,hm0,hps⟩:=Jxi omg h1;obtain rfl:=Jtl hm0;have hsn:(s.length=0)=False:=eq_false (fun h=>Jwg (by rw [List.eq_nil_of_length_eq_zero h] at hps;exact hps));rw [show Jqg .nil=[] by rw [Jqg]];rw [show Jqq RF.nil.list=[] from rfl] at hP;(refine bgo Tryz.func21 ?_;simp only [go_sem,simprocAttr,hg0,Q9]);(repeat' (first | (refine Jqd ?_)|((first | (refine Jqi ?_)|(refine Jqa (hP) ?_)|(refine Jqb (hCl) ?_));simp only [go_sem,simprocAttr,Cl,Lc,Q9,Js5,hsn]) | fail))
  all_goals (first | omega | rfl | (simp only [List.length_append,List.length_cons,List.length_nil];omega) | simp [Jqm,Jra,Jqw,Jrb])
 by_cases k13:k=13
 ·subst k13;obtain ⟨rfl,rfl,hm0,hps⟩:=Jxi omg h1;obtain rfl:=Jtl hm0;have hsn:(s.length=0)=False:=eq_false (fun h=>Jwg (by rw [List.eq_nil_of_length_eq_zero h] at hps;exact hps));rw [show Jqg .nil=[] by rw [Jqg]];rw [show Jqq RF.nil.list=[] from rfl] at hP;(refine bgo Tryz.func21 ?_;simp only [go_sem,simprocAttr,hg0,Q9]);(repeat' (first | (refine Jqd ?_)|((first | (refine Jqi ?_)|(refine Jqa (hP) ?_)|(refine Jqb (hCl) ?_));simp only [go_sem,simprocAttr,Cl,Lc,Q9,Js5,hsn]) | fail))
  all_goals (first | omega | rfl | (simp only [List.length_append,List.length_cons,List.length_nil];omega) | simp [Jqm,Jra,Jqw,Jrb])
 by_cases k14:k=14
 ·subst k14;obtain ⟨rfl,rfl,rfl,hm0⟩:=Jtk omg h1;obtain rfl:=Jtl hm0;rw [show Jqq RF.nil.list=[] from rfl] at hP;(refine bgo Tryz.func21 ?_;simp only [go_sem,simprocAttr,hg0,Q9]);(repeat' (first | ((first | (refine Jqi ?_)|(refine Jqa (hP) ?_)|(refine Jqb (hCl) ?_));simp only [go_sem,simprocAttr,Cl,Lc,Q9,Js5]) | fail))
  all_goals (first | omega | rfl | (simp only [List.length_append,List.length_cons,List.length_nil];omega) | simp [Jqm,Jra,Jqw,Jrb])
 by_cases k15:k=15
 ·subst k15;obtain ⟨rfl,rfl,hm0,hps⟩:=Jxi omg h1;obtain rfl:=Jtl hm0;have hsn:(s.length=0)=False:=eq_false (fun h=>Jwg (by rw [List.eq_nil_of_length_eq_zero h] at hps;exact hps));rw [show Jqg .nil=[] by rw [Jqg]];rw [show Jqq RF.nil.list=[] from rfl] at hP;(refine bgo Tryz.func21 ?_;simp only [go_sem,simprocAttr,hg0,Q9]);(repeat' (first | (refine Jqd ?_)|((first | (refine Jqi ?_)|(refine Jqa (hP) ?_)|(refine Jqb (hCl) ?_));simp only [go_sem,simprocAttr,Cl,Lc,Q9,Js5,hsn]) | fail))
  all_goals (first | omega | rfl | (simp only [List.length_append,List.length_cons,List.length_nil];omega) | simp [Jqm,Jra,Jqw,Jrb])
 by_cases k16:k=16
 ·subst k16;obtain ⟨hm0,hps,hn0,hn5,hpc⟩:=J5o h1;have hX:=J2p c hpc omg;have hxl:=Jxn fc fe0 fe1;rcases (by omega:g=0∨g=1∨g=2∨g=3∨g=4∨g=5) with rfl | rfl | rfl | rfl | rfl | rfl <;> (
   simp only [Jqm,Jrb,Int.reduceEq,if_true,if_false,reduceIte,or_self,false_or,or_false];generalize Jrw c=x at hX hxl ⊢;(refine bgo Tryz.func21 ?_;simp only [go_sem,simprocAttr,hg0,Q9]);(repeat' (first | (refine And.intro (by simp only [List.length_append,List.length_cons,List.length_nil];omega) ?_)|(refine Jqd ?_)|((first | (refine Jqi ?_)|(refine Jqa (hP) ?_)|(refine Jqb (hX) ?_));simp only [go_sem,simprocAttr,Q9]) | fail))
   all_goals (first | omega | rfl | (simp only [List.length_append,List.length_cons,List.length_nil];omega) | simp [Jqm,Jra,Jqw,Jrb]))
 by_cases k17:k=17
 ·subst k17;have hX:=hJ [32,97,110,100,32] sm;have hxl:=hjl [32,97,110,100,32] sm;generalize hxe:Jri 17 (Jqg kids) [32,97,110,100,32]=x at hX hxl;(refine bgo Tryz.func21 ?_;simp only [go_sem,simprocAttr,hg0,Q9]);(repeat' (first | ((first | (refine Jqa (hP) ?_)|(refine Jqa (hX) ?_));simp only [go_sem,simprocAttr]) | fail))
  all_goals (rw [← hxe];simp [Jqm])
 by_cases k18:k=18
 ·subst k18;have hX:=hJ [32,111,114,32] sm;have hxl:=hjl [32,111,114,32] sm;generalize hxe:Jri 18 (Jqg kids) [32,111,114,32]=x at hX hxl;(refine bgo Tryz.func21 ?_;simp only [go_sem,simprocAttr,hg0,Q9]);(repeat' (first | ((first | (refine Jqa (hP) ?_)|(refine Jqa (hX) ?_));simp only [go_sem,simprocAttr]) | fail))
  all_goals (rw [← hxe];simp [Jqm])
 by_cases k19:k=19
 ·subst k19;obtain ⟨rfl,rfl,rfl,hm1⟩:=Jwn omg h1;obtain ⟨nm',t,rfl⟩:=Juu hm1;have h3:=(Jqo.1 h3).1;rw [Jro] at f2;rw [Jqh,Jq0,List.append_nil] at hkn;have hT:=H t [] h3 f2.2.1 (by rw [Jrk];rw [Jrk] at hkn;exact hkn);have hl:=Jre t f2.2.1 nm';have hl2:(Jql t).length≤21000000:=by omega
  rw [show Jqq (RF.cons nm' t .nil).list=[[.sl (rowL (t.enc []))]] from rfl] at hP;rw [show Jqg (.cons nm' t .nil)=[(nm',t.kind,Jql t)] by rw [Jqg,Jqg]];generalize Jql t=x at hT hl2 ⊢;(refine bgo Tryz.func21 ?_;simp only [go_sem,simprocAttr,hg0,Q9]);(repeat' (first | (refine Jqd ?_)|((first | (refine Jqa (hP) ?_)|(refine Jqa (hT) ?_));simp only [go_sem,simprocAttr]) | fail))
  all_goals (first | omega | rfl | (simp only [List.length_append,List.length_cons,List.length_nil];omega) | simp [Jqm,Jra,Jqw,Jrb])
 exact absurd hkk omg
theorem Jti:∀ n,n≤10000→Jvs n
 | 0,_=>fun t nm _ _ h=>by have:=Jrj t nm;omega
 | n+1,h=>J53 n omg (Jti n omg)
end Go.LX
namespace Go.LX
open Go Go.RowKit Go.Proofs
section
variable {X:Cx} {ro:Option Nat} {md:Region.Mode} {ops:Array Oper}
def takeQ (md:Region.Mode) (ops:Array Oper) (q:Nat→Bool):List Nat→Array Bool→Bool
 | [],_=>true
 | i :: I,listed=>(Region.ready md ops listed).contains i && (Region.free md ops listed i && (q i && ((List.range ops.size).all (fun j=>q j || ancB md ops ops.size i j) && takeQ md ops q I (listed.setIfInBounds i true))))
def J58 (X:Cx) (ds:List (Option Tmp)) (ops:List Oper) (q:Nat→Bool) (K:St→Prop):Ord→St→Prop
 | .leaf,s=>K s
 | .nil,_=>True
 | .bad,_=>False
 | .node i sub next,s=>(if q i=true then YSAt X ds ops i (J58 X ds ops q K sub) s else lAt X ds ops i (J58 X ds ops q K sub) s)∧J58 X ds ops q K next s
end
def qi (k a b i:Nat):Bool:=decide (i<k) || (!decide (i<a) && decide (i<b))
section
variable {X:Cx} {ds:List (Option Tmp)} {t:List L} {r:Regs} {E:St→Prop}
def qj (a b c e i:Nat):Bool:=(!decide (i<a) && decide (i<b)) || (!decide (i<c) && decide (i<e))
end
section
variable {X:Cx} {ro:Option Nat} {ops:Array Oper}
def J6s (o:Oper):Bool:=o.guard.isNone && match o.op,o.dst with
 | .buildSlice _ 0 parts,some _=>parts.toList.isEmpty
 | _,_=>false
def J16 (o:Oper):Bool:=J3f o || (o.guard.isNone && match o.op with
 | .slice ..=>true
 | _=>false)
def takeAQ (ops:Array Oper) (q:Nat→Bool):List Nat→Array Bool→Bool
 | [],_=>true
 | i :: I,listed=>(Region.ready .any ops listed).contains i && (Region.free .any ops listed i && (q i && ((match ops[i]? with | some o=>J16 o | none=>false) && ((List.range ops.size).all (fun j=>q j || (ancB .any ops ops.size i j || match ops[j]? with | some o=>J6s o | none=>false)) && takeAQ ops q I (listed.setIfInBounds i true)))))
end
section
variable {X:Cx} {r:Regs} {t:List L} {dst:Option Tmp} {ty:TypeId} {ps:String} {af:Array Edge} {g:Option (Nat×Bool)}
def farB (s:St):Option Operand→Prop
 | some x=>farL (s.get x)=true
 | none=>True
end
section
variable {X:Cx} {ro:Option Nat} {ops:Array Oper}
def isMk (kp:Nat→Bool) (o:Oper):Bool:=o.guard.isNone && match o.op,o.dst with
 | .buildSlice t _ parts,some _=>!kp t && decide (parts.toList.length≤1)
 | .call { callee:=.builtin .append,args,argTypes },some _=>decide (args.toList.length=2) && (decide (argTypes.toList.length=2) && argTypes.toList.all fun t=>!kp t)
 | _,_=>false
def takeCQ (kp:Nat→Bool) (ops:Array Oper) (q:Nat→Bool):List Nat→Array Bool→Bool
 | [],_=>true
 | i :: I,listed=>(Region.ready .any ops listed).contains i && (Region.free .any ops listed i && (q i && ((match ops[i]? with | some o=>J16 o | none=>false) && ((List.range ops.size).all (fun j=>q j || (ancB .any ops ops.size i j || match ops[j]? with | some o=>isMk kp o | none=>false)) && takeCQ kp ops q I (listed.setIfInBounds i true)))))
end
attribute [local irreducible] Al Bi SWP
theorem Juq (s:List UInt8) (hs:s.length≤1000000):Det cx 120 [.p (.str s)] [] (.p (.bool (decide (Jtq s)))) []:=by
 have hR:=Jjx s hs;by_cases h0:(Je s).2.2=0
 ·have c1:(((Je s).2.2:Int)=0)=True:=eq_true omg;rw [show decide (Jtq s)=true from decide_eq_true h0];(refine bgo Tryz.func120 ?_;simp only [go_sem,simprocAttr]);(repeat' (first | ((refine Jqa (hR) ?_);simp only [go_sem,simprocAttr,c1]) | fail))
 ·have c1:(((Je s).2.2:Int)=0)=False:=eq_false omg;rw [show decide (Jtq s)=false from decide_eq_false h0];(refine bgo Tryz.func120 ?_;simp only [go_sem,simprocAttr]);(repeat' (first | ((refine Jqa (hR) ?_);simp only [go_sem,simprocAttr,c1]) | fail))
theorem Jwf (k m:Int) (nm s:List UInt8) (n:Int) (c:Node):Det cx 49 [.p (.agg [.int .i64 k,.int .i64 m,.str nm,.str s,.int .i64 n,.int .i64 c.kind,.int .i64 c.many,.str c.name,.str c.s,.bool c.neg,.int .i64 c.e])] [] (.p (.bool (decide (Jqj k)))) []:=by
 by_cases h1:16≤k
 ·have c1:=eq_true h1;by_cases h2:k≤19
  ·have c2:=eq_true h2;rw [show decide (Jqj k)=true from decide_eq_true ⟨h1,h2⟩];(refine bgo Tryz.func49 ?_;simp only [go_sem,simprocAttr,c1,c2,decide_true])
   skip
  ·have c2:=eq_false h2;rw [show decide (Jqj k)=false from decide_eq_false fun h=>h2 h.2];(refine bgo Tryz.func49 ?_;simp only [go_sem,simprocAttr,c1,c2,decide_true,decide_false])
   skip
 ·have c1:=eq_false h1;rw [show decide (Jqj k)=false from decide_eq_false fun h=>h1 h.1];(refine bgo Tryz.func49 ?_;simp only [go_sem,simprocAttr,c1,decide_false])
  skip
theorem num_rt {n:Node} (h:RightN n):Yz n.s n.neg n.e:=by
 refine ⟨h.figs,h.len,h.e1,h.e2,h.top,?_⟩;split
 ·rename_i hs;exact h.zero (by rw [hs];rfl)
 ·rename_i hs;have:0<n.s.length:=by
   cases hq:n.s with
   | nil=>exact absurd hq hs
   | cons=>simp
  exact ⟨h.head this,h.last this⟩
theorem J0w (n:Node) (hk:n.kind<5) (hs:n.s.length≤1000000):Det cx 149 [.p (.agg [.int .i64 n.kind,.int .i64 n.many,.str n.name,.str n.s,.bool n.neg,.int .i64 n.e])] [] (.p (.bool (decide (G3 n.kind n.s n.neg n.e n.many)))) []:=by
 obtain ⟨k,m,nm,s,g,e⟩:=n;simp only at hk hs ⊢;by_cases k0:k=0∨k=1∨k=2
 ·rcases k0 with rfl | rfl | rfl <;> (
   (refine bgo Tryz.func149 ?_;simp only [go_sem,simprocAttr])
   all_goals (rw [Bool.eq_iff_iff];simp [G3];try (simp_all <;> omega)))
 by_cases k3:k=3
 ·subst k3;have hR:=Jyh ⟨3,m,[],s,g,e⟩ hs;rw [Jsh] at hR;have hN:Jrh ⟨3,m,[],s,g,e⟩=decide (G3 3 s g e m):=by
   rw [Bool.eq_iff_iff,Jx2,decide_eq_true_eq];unfold G3;rw [if_neg omg,if_pos rfl];constructor
   ·intro h;exact ⟨h.many,(num_rt h)⟩
   ·rintro ⟨rfl,h⟩;exact Jy6 h
  rw [← hN];(refine bgo Tryz.func149 ?_;simp only [go_sem,simprocAttr]);(repeat' (first | ((refine Jqa (hR) ?_);simp only [go_sem,simprocAttr]) | fail))
 by_cases k4:k=4
 ·subst k4;have hV:=Fi s omg;(refine bgo Tryz.func149 ?_;simp only [go_sem,simprocAttr]);(repeat' (first | (apply iteI <;> intro h)|((refine Jqa (hV) ?_);simp only [go_sem,simprocAttr]) | fail))
  all_goals (rw [Bool.eq_iff_iff];simp [G3];try (simp_all <;> omega))
 have hno:decide (G3 k s g e m)=false:=by
  rw [decide_eq_false_iff_not];unfold G3;rw [if_neg k0,if_neg k3,if_neg k4,if_neg omg];exact id
 rw [hno];have e0:=eq_false (show ¬ k=0 by omega);have e1:=eq_false (show ¬ k=1 by omega);have e2:=eq_false (show ¬ k=2 by omega);have e3:=eq_false k3;have e4:=eq_false k4;have e5:=eq_false (show ¬ k=5 by omega);have e6:=eq_false (show ¬ k=6 by omega);(refine bgo Tryz.func149 ?_;simp only [go_sem,simprocAttr,e0,e1,e2,e3,e4,e5,e6])
 skip
theorem Jt3 (k m:Int) (nm s s0 s1:List UInt8) (n n0 n1:Int) (c c0 c1:Node):Det cx 119 [.p (.str s),.p (.int .i64 n),.p (.agg [.int .i64 c.kind,.int .i64 c.many,.str c.name,.str c.s,.bool c.neg,.int .i64 c.e]),.ptr 1000 0 0,.ptr 1001 0 0] [(1000,.var 37 [.p (.int .i64 k),.p (.int .i64 m),.p (.str nm),.p (.str s0),.p (.int .i64 n0),.p (.int .i64 c0.kind),.p (.int .i64 c0.many),.p (.str c0.name),.p (.str c0.s),.p (.bool c0.neg),.p (.int .i64 c0.e)]),(1001,.var 37 [.p (.int .i64 k),.p (.int .i64 m),.p (.str nm),.p (.str s1),.p (.int .i64 n1),.p (.int .i64 c1.kind),.p (.int .i64 c1.many),.p (.str c1.name),.p (.str c1.s),.p (.bool c1.neg),.p (.int .i64 c1.e)])] (.p (.bool (decide (s1=s∧n1=n∧c1=c)))) [(1000,.var 37 [.p (.int .i64 k),.p (.int .i64 m),.p (.str nm),.p (.str s),.p (.int .i64 n),.p (.int .i64 c.kind),.p (.int .i64 c.many),.p (.str c.name),.p (.str c.s),.p (.bool c.neg),.p (.int .i64 c.e)]),(1001,.var 37 [.p (.int .i64 k),.p (.int .i64 m),.p (.str nm),.p (.str s1),.p (.int .i64 n1),.p (.int .i64 c1.kind),.p (.int .i64 c1.many),.p (.str c1.name),.p (.str c1.s),.p (.bool c1.neg),.p (.int .i64 c1.e)])]:=by
 (refine bgo Tryz.func119 ?_;simp only [go_sem,simprocAttr]);refine Je9 (.node 0 (.node 1 (.node 2 (.node 3 (.node 4 (.node 5 (.node 6 (.node 7 (.node 8 .leaf .nil) .nil) .nil) .nil) .nil) .nil) (.node 3 (.node 2 (.node 4 (.node 5 (.node 6 (.node 7 (.node 8 .leaf .nil) .nil) .nil) .nil) .nil) (.node 4 (.node 2 (.node 5 (.node 6 (.node 7 (.node 8 .leaf .nil) .nil) .nil) .nil) (.node 5 (.node 2 (.node 6 (.node 7 (.node 8 .leaf .nil) .nil) .nil) (.node 6 (.node 2 (.node 7 (.node 8 .leaf .nil) .nil) .nil) .nil)) .nil)) .nil)) .nil)) (.node 2 (.node 1 (.node 3 (.node 4 (.node 5 (.node 6 (.node 7 (.node 8 .leaf .nil) .nil) .nil) .nil) .nil) .nil) (.node 3 (.node 1 (.node 4 (.node 5 (.node 6 (.node 7 (.node 8 .leaf .nil) .nil) .nil) .nil) .nil) (.node 4 (.node 1 (.node 5 (.node 6 (.node 7 (.node 8 .leaf .nil) .nil) .nil) .nil) .nil) .nil)) .nil)) (.node 3 (.node 1 (.node 2 (.node 4 (.node 5 (.node 6 (.node 7 (.node 8 .leaf .nil) .nil) .nil) .nil) .nil) (.node 4 (.node 2 (.node 5 (.node 6 (.node 7 (.node 8 .leaf .nil) .nil) .nil) .nil) (.node 5 (.node 2 (.node 6 (.node 7 (.node 8 .leaf .nil) .nil) .nil) (.node 6 (.node 2 (.node 7 (.node 8 .leaf .nil) .nil) .nil) .nil)) .nil)) .nil)) (.node 2 (.node 1 (.node 4 (.node 5 (.node 6 (.node 7 (.node 8 .leaf .nil) .nil) .nil) .nil) .nil) (.node 4 (.node 1 (.node 5 (.node 6 (.node 7 (.node 8 .leaf .nil) .nil) .nil) .nil) .nil) .nil)) (.node 4 (.node 1 (.node 2 (.node 5 (.node 6 (.node 7 (.node 8 .leaf .nil) .nil) .nil) .nil) (.node 5 (.node 2 (.node 6 (.node 7 (.node 8 .leaf .nil) .nil) .nil) (.node 6 (.node 2 (.node 7 (.node 8 .leaf .nil) .nil) .nil) .nil)) .nil)) (.node 2 (.node 1 (.node 5 (.node 6 (.node 7 (.node 8 .leaf .nil) .nil) .nil) .nil) .nil) .nil)) .nil))) .nil))) (.node 1 (.node 0 (.node 2 (.node 3 (.node 4 (.node 5 (.node 6 (.node 7 (.node 8 .leaf .nil) .nil) .nil) .nil) .nil) .nil) (.node 3 (.node 2 (.node 4 (.node 5 (.node 6 (.node 7 (.node 8 .leaf .nil) .nil) .nil) .nil) .nil) (.node 4 (.node 2 (.node 5 (.node 6 (.node 7 (.node 8 .leaf .nil) .nil) .nil) .nil) (.node 5 (.node 2 (.node 6 (.node 7 (.node 8 .leaf .nil) .nil) .nil) (.node 6 (.node 2 (.node 7 (.node 8 .leaf .nil) .nil) .nil) .nil)) .nil)) .nil)) .nil)) (.node 2 (.node 0 (.node 3 (.node 4 (.node 5 (.node 6 (.node 7 (.node 8 .leaf .nil) .nil) .nil) .nil) .nil) .nil) .nil) .nil)) (.node 2 (.node 0 (.node 1 (.node 3 (.node 4 (.node 5 (.node 6 (.node 7 (.node 8 .leaf .nil) .nil) .nil) .nil) .nil) .nil) (.node 3 (.node 1 (.node 4 (.node 5 (.node 6 (.node 7 (.node 8 .leaf .nil) .nil) .nil) .nil) .nil) (.node 4 (.node 1 (.node 5 (.node 6 (.node 7 (.node 8 .leaf .nil) .nil) .nil) .nil) .nil) .nil)) .nil)) (.node 1 (.node 0 (.node 3 (.node 4 (.node 5 (.node 6 (.node 7 (.node 8 .leaf .nil) .nil) .nil) .nil) .nil) .nil) .nil) .nil)) .nil))) ⟨Ba 18 [(3,.ptr 1000 0 0),(4,.ptr 1001 0 0)],[(1000,.var 37 [.p (.int .i64 k),.p (.int .i64 m),.p (.str nm),.p (.str s),.p (.int .i64 n),.p (.int .i64 c.kind),.p (.int .i64 c.many),.p (.str c.name),.p (.str c.s),.p (.bool c.neg),.p (.int .i64 c.e)]),(1001,.var 37 [.p (.int .i64 k),.p (.int .i64 m),.p (.str nm),.p (.str s1),.p (.int .i64 n1),.p (.int .i64 c1.kind),.p (.int .i64 c1.many),.p (.str c1.name),.p (.str c1.s),.p (.bool c1.neg),.p (.int .i64 c1.e)])]⟩ hm kr ?_ ?_
 ·simp (maxSteps:=100000000) only [go_sem,simprocAttr];(repeat' apply And.intro)
  all_goals (show St.Le _ _;exact Jqe)
 ·simp only [go_sem,simprocAttr];rw [Jma,Bool.eq_iff_iff];simp
theorem J1i (n:Node) (hk:n.kind<5) (hs:n.s.length≤1000000):Det cx 121 [.p (.sl [[.int .i64 n.kind,.int .i64 n.many,.str n.name,.str n.s,.bool n.neg,.int .i64 n.e]])] [] (.p (.bool (decide (Jq8 n)))) []:=by
 by_cases hp:Jq8 n
 ·have h:=J4j n.kind n.s n.neg n.e (by have:=hp.2.2;rw [Js9 hp] at this;exact this) hk hs;rw [decide_eq_true hp,Js9 hp,hp.2.1];exact h
 ·rw [decide_eq_false hp];have hP:=J0w n hk hs;obtain ⟨k,m,nm,s,g,e⟩:=n;simp only at hk hs hP ⊢;(refine bgo Tryz.func121 ?_;simp only [go_sem,simprocAttr]);refine SWP.loop (fun _:Unit=>⟨Ba 123 [(0,.p (.sl [[.int .i64 k,.int .i64 m,.str nm,.str s,.bool g,.int .i64 e]])),(3,.own 9 0 1),(10,.p (.sl [[.int .i64 k,.int .i64 m,.str nm,.str s,.bool g,.int .i64 e]])),(11,.p (.int .i64 1)),(12,.p (.int .i64 0))],[(9,.row 160 4 [[.int .i64 5,.int .i64 1,.bool false,.str []]])]⟩) (fun _=>True) (fun _=>0) () Jqe trivial ?_;rintro _ _;(refine lws ?_;simp only [go_sem,simprocAttr]);refine SWP.loop (fun _:Unit=>⟨Ba 123 [(0,.p (.sl [[.int .i64 k,.int .i64 m,.str nm,.str s,.bool g,.int .i64 e]])),(3,.own 9 0 1),(5,.ptr 5 0 0),(10,.p (.sl [[.int .i64 k,.int .i64 m,.str nm,.str s,.bool g,.int .i64 e]])),(11,.p (.int .i64 1)),(12,.p (.int .i64 0))],[(5,.var 35 [.p (.int .i64 k),.p (.int .i64 m),.p (.str nm),.p (.str s),.p (.bool g),.p (.int .i64 e)]),(9,.row 160 4 [[.int .i64 5,.int .i64 1,.bool false,.str []]])]⟩) (fun _=>True) (fun _=>0) () Jqe trivial ?_;rintro _ _;have e1:((1:Nat):Int)=1:=rfl;have w0:IntKind.i64.wrap 0=0:=by decide
  have w1:IntKind.i64.wrap 1=1:=by decide
  by_cases ho:G3 k s g e m
  ·rw [decide_eq_true ho] at hP;have hm0:m=0:=Js9 (n:=⟨k,m,[],s,g,e⟩) ⟨hk,rfl,ho⟩;subst hm0;have hnm:(nm=[])=False:=eq_false fun h=>hp ⟨hk,h,ho⟩
   (refine lws ?_;simp only [go_sem,simprocAttr,e1,w0,decide_true]);(repeat' (first | ((refine Jqa (hP) ?_);simp only [go_sem,simprocAttr,e1,w0,hnm,decide_false,Bool.not_false,Bool.not_true]) | fail))
  ·rw [decide_eq_false ho] at hP;(refine lws ?_;simp only [go_sem,simprocAttr,e1,w0,decide_true]);(repeat' (first | ((refine Jqa (hP) ?_);simp only [go_sem,simprocAttr,Bool.not_false]) | fail))
theorem J3c (k m:Int) (nm s:List UInt8) (n:Int) (c:Node) (hs:s.length≤1000000) (hf:NodeFitC c):Det cx 87 [.p (.agg [.int .i64 k,.int .i64 m,.str nm,.str s,.int .i64 n,.int .i64 c.kind,.int .i64 c.many,.str c.name,.str c.s,.bool c.neg,.int .i64 c.e])] [] (.p (.bool (decide (Jqf k s n c m)))) []:=by
 by_cases k0:k=0
 ·subst k0;(refine bgo Tryz.func87 ?_;simp only [go_sem,simprocAttr]);(repeat' (apply iteI <;> intro h))
  all_goals (try clear hW)
  all_goals (try clear hU)
  all_goals (try clear hP)
  all_goals (try clear hR)
  all_goals (try clear hV)
  all_goals (clear hf hs)
  all_goals (rw [Bool.eq_iff_iff])
  all_goals (simp only [Jqf,Jqn,decide_eq_true_eq,Int.reduceEq,if_true,if_false,true_or,or_true,or_false,false_or,or_self,ite_true,ite_false,reduceIte])
  all_goals (try simp_all)
  all_goals (try omega)
 by_cases k1:k=1
 ·subst k1;have hV:=Fi s omg;have hW:=Jt3 1 m nm s [] s 0 0 n Jqt Jqt c;(refine bgo Tryz.func87 ?_;simp only [go_sem,simprocAttr]);(repeat' (first | (apply iteI <;> intro h)|((first | (refine Jqa (hW) ?_)|(refine Jqa (hV) ?_));simp only [go_sem,simprocAttr]) | fail))
  all_goals (try clear hW)
  all_goals (try clear hU)
  all_goals (try clear hP)
  all_goals (try clear hR)
  all_goals (try clear hV)
  all_goals (clear hf hs)
  all_goals (rw [Bool.eq_iff_iff])
  all_goals (simp only [Jqf,decide_eq_true_eq,Int.reduceEq,if_true,if_false,true_or,or_true,or_false,false_or,or_self,ite_true,ite_false,reduceIte])
  all_goals (try simp_all)
  all_goals (try omega)
 by_cases k2:k=2
 ·subst k2;have hW:=Jt3 2 m nm [] [] s n 0 n Jqt Jqt c;(refine bgo Tryz.func87 ?_;simp only [go_sem,simprocAttr]);(repeat' (first | (apply iteI <;> intro h)|((refine Jqa (hW) ?_);simp only [go_sem,simprocAttr]) | fail))
  all_goals (try clear hW)
  all_goals (try clear hU)
  all_goals (try clear hP)
  all_goals (try clear hR)
  all_goals (try clear hV)
  all_goals (clear hf hs)
  all_goals (rw [Bool.eq_iff_iff])
  all_goals (simp only [Jqf,decide_eq_true_eq,Int.reduceEq,if_true,if_false,true_or,or_true,or_false,false_or,or_self,ite_true,ite_false,reduceIte])
  all_goals (try simp_all)
  all_goals (try omega)
 by_cases k3:k=3
 ·subst k3;have hW:=Jt3 3 m nm [] [] s n 0 n Jqt Jqt c;(refine bgo Tryz.func87 ?_;simp only [go_sem,simprocAttr]);(repeat' (first | (apply iteI <;> intro h)|((refine Jqa (hW) ?_);simp only [go_sem,simprocAttr]) | fail))
  all_goals (try clear hW)
  all_goals (try clear hU)
  all_goals (try clear hP)
  all_goals (try clear hR)
  all_goals (try clear hV)
  all_goals (clear hf hs)
  all_goals (rw [Bool.eq_iff_iff])
  all_goals (simp only [Jqf,decide_eq_true_eq,Int.reduceEq,if_true,if_false,true_or,or_true,or_false,false_or,or_self,ite_true,ite_false,reduceIte])
  all_goals (try simp_all)
  all_goals (try omega)
 by_cases k4:k=4
 ·subst k4;(refine bgo Tryz.func87 ?_;simp only [go_sem,simprocAttr]);(repeat' (apply iteI <;> intro h))
  all_goals (try clear hW)
  all_goals (try clear hU)
  all_goals (try clear hP)
  all_goals (try clear hR)
  all_goals (try clear hV)
  all_goals (clear hf hs)
  all_goals (rw [Bool.eq_iff_iff])
  all_goals (simp only [Jqf,Jqn,decide_eq_true_eq,Int.reduceEq,if_true,if_false,true_or,or_true,or_false,false_or,or_self,ite_true,ite_false,reduceIte])
  all_goals (try simp_all)
  all_goals (try omega)
 by_cases k5:k=5
 ·subst k5;(refine bgo Tryz.func87 ?_;simp only [go_sem,simprocAttr]);(repeat' (apply iteI <;> intro h))
  all_goals (try clear hW)
  all_goals (try clear hU)
  all_goals (try clear hP)
  all_goals (try clear hR)
  all_goals (try clear hV)
  all_goals (clear hf hs)
  all_goals (rw [Bool.eq_iff_iff])
  all_goals (simp only [Jqf,Jqn,decide_eq_true_eq,Int.reduceEq,if_true,if_false,true_or,or_true,or_false,false_or,or_self,ite_true,ite_false,reduceIte])
  all_goals (try simp_all)
  all_goals (try omega)
 by_cases k6:k=6
 ·subst k6;(refine bgo Tryz.func87 ?_;simp only [go_sem,simprocAttr]);(repeat' (apply iteI <;> intro h))
  all_goals (try clear hW)
  all_goals (try clear hU)
  all_goals (try clear hP)
  all_goals (try clear hR)
  all_goals (try clear hV)
  all_goals (clear hf hs)
  all_goals (rw [Bool.eq_iff_iff])
  all_goals (simp only [Jqf,Jqn,decide_eq_true_eq,Int.reduceEq,if_true,if_false,true_or,or_true,or_false,false_or,or_self,ite_true,ite_false,reduceIte])
  all_goals (try simp_all)
  all_goals (try omega)
 by_cases k7:k=7
 ·subst k7;(refine bgo Tryz.func87 ?_;simp only [go_sem,simprocAttr]);(repeat' (apply iteI <;> intro h))
  all_goals (try clear hW)
  all_goals (try clear hU)
  all_goals (try clear hP)
  all_goals (try clear hR)
  all_goals (try clear hV)
  all_goals (clear hf hs)
  all_goals (rw [Bool.eq_iff_iff])
  all_goals (simp only [Jqf,Jqn,decide_eq_true_eq,Int.reduceEq,if_true,if_false,true_or,or_true,or_false,false_or,or_self,ite_true,ite_false,reduceIte])
  all_goals (try simp_all)
  all_goals (try omega)
 by_cases k8:k=8
 ·subst k8;(refine bgo Tryz.func87 ?_;simp only [go_sem,simprocAttr]);(repeat' (apply iteI <;> intro h))
  all_goals (try clear hW)
  all_goals (try clear hU)
  all_goals (try clear hP)
  all_goals (try clear hR)
  all_goals (try clear hV)
  all_goals (clear hf hs)
  all_goals (rw [Bool.eq_iff_iff])
  all_goals (simp only [Jqf,Jqn,decide_eq_true_eq,Int.reduceEq,if_true,if_false,true_or,or_true,or_false,false_or,or_self,ite_true,ite_false,reduceIte])
  all_goals (try simp_all)
  all_goals (try omega)
 by_cases k9:k=9
 ·subst k9;(refine bgo Tryz.func87 ?_;simp only [go_sem,simprocAttr]);(repeat' (apply iteI <;> intro h))
  all_goals (try clear hW)
  all_goals (try clear hU)
  all_goals (try clear hP)
  all_goals (try clear hR)
  all_goals (try clear hV)
  all_goals (clear hf hs)
  all_goals (rw [Bool.eq_iff_iff])
  all_goals (simp only [Jqf,Jqn,decide_eq_true_eq,Int.reduceEq,if_true,if_false,true_or,or_true,or_false,false_or,or_self,ite_true,ite_false,reduceIte])
  all_goals (try simp_all)
  all_goals (try omega)
 by_cases k10:k=10
 ·subst k10;(refine bgo Tryz.func87 ?_;simp only [go_sem,simprocAttr]);(repeat' (apply iteI <;> intro h))
  all_goals (try clear hW)
  all_goals (try clear hU)
  all_goals (try clear hP)
  all_goals (try clear hR)
  all_goals (try clear hV)
  all_goals (clear hf hs)
  all_goals (rw [Bool.eq_iff_iff])
  all_goals (simp only [Jqf,Jqn,decide_eq_true_eq,Int.reduceEq,if_true,if_false,true_or,or_true,or_false,false_or,or_self,ite_true,ite_false,reduceIte])
  all_goals (try simp_all)
  all_goals (try omega)
 by_cases k11:k=11
 ·subst k11;(refine bgo Tryz.func87 ?_;simp only [go_sem,simprocAttr]);(repeat' (apply iteI <;> intro h))
  all_goals (try clear hW)
  all_goals (try clear hU)
  all_goals (try clear hP)
  all_goals (try clear hR)
  all_goals (try clear hV)
  all_goals (clear hf hs)
  all_goals (rw [Bool.eq_iff_iff])
  all_goals (simp only [Jqf,Jqn,decide_eq_true_eq,Int.reduceEq,if_true,if_false,true_or,or_true,or_false,false_or,or_self,ite_true,ite_false,reduceIte])
  all_goals (try simp_all)
  all_goals (try omega)
 by_cases k12:k=12
 ·subst k12;have hP:=Juq s hs;have hW:=Jt3 12 m nm s [] s 0 0 n Jqt Jqt c;(refine bgo Tryz.func87 ?_;simp only [go_sem,simprocAttr]);(repeat' (first | (apply iteI <;> intro h)|((first | (refine Jqa (hW) ?_)|(refine Jqa (hP) ?_));simp only [go_sem,simprocAttr]) | fail))
  all_goals (try clear hW)
  all_goals (try clear hU)
  all_goals (try clear hP)
  all_goals (try clear hR)
  all_goals (try clear hV)
  all_goals (clear hf hs)
  all_goals (rw [Bool.eq_iff_iff])
  all_goals (simp only [Jqf,decide_eq_true_eq,Int.reduceEq,if_true,if_false,true_or,or_true,or_false,false_or,or_self,ite_true,ite_false,reduceIte])
  all_goals (try simp_all)
  all_goals (try omega)
 by_cases k13:k=13
 ·subst k13;have hP:=Juq s hs;have hW:=Jt3 13 m nm s [] s 0 0 n Jqt Jqt c;(refine bgo Tryz.func87 ?_;simp only [go_sem,simprocAttr]);(repeat' (first | (apply iteI <;> intro h)|((first | (refine Jqa (hW) ?_)|(refine Jqa (hP) ?_));simp only [go_sem,simprocAttr]) | fail))
  all_goals (try clear hW)
  all_goals (try clear hU)
  all_goals (try clear hP)
  all_goals (try clear hR)
  all_goals (try clear hV)
  all_goals (clear hf hs)
  all_goals (rw [Bool.eq_iff_iff])
  all_goals (simp only [Jqf,decide_eq_true_eq,Int.reduceEq,if_true,if_false,true_or,or_true,or_false,false_or,or_self,ite_true,ite_false,reduceIte])
  all_goals (try simp_all)
  all_goals (try omega)
 by_cases k14:k=14
 ·subst k14;(refine bgo Tryz.func87 ?_;simp only [go_sem,simprocAttr]);(repeat' (apply iteI <;> intro h))
  all_goals (try clear hW)
  all_goals (try clear hU)
  all_goals (try clear hP)
  all_goals (try clear hR)
  all_goals (try clear hV)
  all_goals (clear hf hs)
  all_goals (rw [Bool.eq_iff_iff])
  all_goals (simp only [Jqf,Jqn,decide_eq_true_eq,Int.reduceEq,if_true,if_false,true_or,or_true,or_false,false_or,or_self,ite_true,ite_false,reduceIte])
  all_goals (try simp_all)
  all_goals (try omega)
 by_cases k15:k=15
 ·subst k15;have hP:=Juq s hs;have hW:=Jt3 15 m nm s [] s 0 0 n Jqt Jqt c;(refine bgo Tryz.func87 ?_;simp only [go_sem,simprocAttr]);(repeat' (first | (apply iteI <;> intro h)|((first | (refine Jqa (hW) ?_)|(refine Jqa (hP) ?_));simp only [go_sem,simprocAttr]) | fail))
  all_goals (try clear hW)
  all_goals (try clear hU)
  all_goals (try clear hP)
  all_goals (try clear hR)
  all_goals (try clear hV)
  all_goals (clear hf hs)
  all_goals (rw [Bool.eq_iff_iff])
  all_goals (simp only [Jqf,decide_eq_true_eq,Int.reduceEq,if_true,if_false,true_or,or_true,or_false,false_or,or_self,ite_true,ite_false,reduceIte])
  all_goals (try simp_all)
  all_goals (try omega)
 by_cases k17:k=17
 ·subst k17;(refine bgo Tryz.func87 ?_;simp only [go_sem,simprocAttr]);(repeat' (apply iteI <;> intro h))
  all_goals (try clear hW)
  all_goals (try clear hU)
  all_goals (try clear hP)
  all_goals (try clear hR)
  all_goals (try clear hV)
  all_goals (clear hf hs)
  all_goals (rw [Bool.eq_iff_iff])
  all_goals (simp only [Jqf,Jqn,decide_eq_true_eq,Int.reduceEq,if_true,if_false,true_or,or_true,or_false,false_or,or_self,ite_true,ite_false,reduceIte])
  all_goals (try simp_all)
  all_goals (try omega)
 by_cases k18:k=18
 ·subst k18;(refine bgo Tryz.func87 ?_;simp only [go_sem,simprocAttr]);(repeat' (apply iteI <;> intro h))
  all_goals (try clear hW)
  all_goals (try clear hU)
  all_goals (try clear hP)
  all_goals (try clear hR)
  all_goals (try clear hV)
  all_goals (clear hf hs)
  all_goals (rw [Bool.eq_iff_iff])
  all_goals (simp only [Jqf,Jqn,decide_eq_true_eq,Int.reduceEq,if_true,if_false,true_or,or_true,or_false,false_or,or_self,ite_true,ite_false,reduceIte])
  all_goals (try simp_all)
  all_goals (try omega)
 by_cases k19:k=19
 ·subst k19;(refine bgo Tryz.func87 ?_;simp only [go_sem,simprocAttr]);(repeat' (apply iteI <;> intro h))
  all_goals (try clear hW)
  all_goals (try clear hU)
  all_goals (try clear hP)
  all_goals (try clear hR)
  all_goals (try clear hV)
  all_goals (clear hf hs)
  all_goals (rw [Bool.eq_iff_iff])
  all_goals (simp only [Jqf,Jqn,decide_eq_true_eq,Int.reduceEq,if_true,if_false,true_or,or_true,or_false,false_or,or_self,ite_true,ite_false,reduceIte])
  all_goals (try simp_all)
  all_goals (try omega)
 by_cases k16:k=16
 ·subst k16;have hP:=Juq s hs;have hW:=Jt3 16 m nm s [] s n 0 n c Jqt c;by_cases hk:c.kind<5
  ·have hR:=J1i c hk hf.s;have ck:=eq_true hk;(refine bgo Tryz.func87 ?_;simp only [go_sem,simprocAttr,ck,decide_true]);(repeat' (first | (apply iteI <;> intro h)|((first | (refine Jqa (hW) ?_)|(refine Jqa (hP) ?_)|(refine Jqa (hR) ?_));simp only [go_sem,simprocAttr,decide_true]) | fail))
   all_goals (try clear hW)
   all_goals (try clear hU)
   all_goals (try clear hP)
   all_goals (try clear hR)
   all_goals (try clear hV)
   all_goals (clear hf hs)
   all_goals (rw [Bool.eq_iff_iff])
   all_goals (simp only [Jqf,decide_eq_true_eq,Int.reduceEq,if_true,if_false,true_or,or_true,or_false,false_or,or_self,ite_true,ite_false,reduceIte])
   all_goals (try simp_all)
   all_goals (try omega)
  ·have ck:=eq_false hk;have hnp:¬ Jq8 c:=fun h=>hk h.1
   (refine bgo Tryz.func87 ?_;simp only [go_sem,simprocAttr,ck,decide_false]);(repeat' (first | (apply iteI <;> intro h)|((first | (refine Jqa (hW) ?_)|(refine Jqa (hP) ?_));simp only [go_sem,simprocAttr]) | fail))
   all_goals (try clear hW)
   all_goals (try clear hU)
   all_goals (try clear hP)
   all_goals (try clear hR)
   all_goals (try clear hV)
   all_goals (clear hf hs)
   all_goals (rw [Bool.eq_iff_iff])
   all_goals (simp only [Jqf,decide_eq_true_eq,Int.reduceEq,if_true,if_false,true_or,or_true,or_false,false_or,or_self,ite_true,ite_false,reduceIte])
   all_goals (try simp_all)
   all_goals (try omega)
 have e0:=eq_false k0;have e1:=eq_false k1;have e2:=eq_false k2;have e3:=eq_false k3;have e4:=eq_false k4;have e5:=eq_false k5;have e6:=eq_false k6;have e7:=eq_false k7;have e8:=eq_false k8;have e9:=eq_false k9;have e10:=eq_false k10;have e11:=eq_false k11;have e12:=eq_false k12;have e13:=eq_false k13;have e14:=eq_false k14;have e15:=eq_false k15;have e17:=eq_false k17;have e18:=eq_false k18;have e19:=eq_false k19;have e16:=eq_false k16;rw [show decide (Jqf k s n c m)=false by simp [Jqf,k0,k1,k2,k3,k4,k5,k6,k7,k8,k9,k10,k11,k12,k13,k14,k15,k16,k17,k18,k19]];(refine bgo Tryz.func87 ?_;simp only [go_sem,simprocAttr,e0,e1,e2,e3,e4,e5,e6,e7,e8,e9,e10,e11,e12,e13,e14,e15,e17,e18,e19,e16])
 skip
end Go.LX
namespace Go.LX
open Go
def Jq6 (v:List YRow) (i j:Nat):Prop:=∃ nm t rest,v.drop i=RT.enc nm t ++ rest∧okQ t∧j=i+(RT.enc nm t).length
theorem J20 {v:List YRow} {i j k:Nat} (h:Jq6 v i j) (h':Jq6 v i k):j=k:=by
 obtain ⟨nm,t,r,h1,_,h2⟩:=h;obtain ⟨nm',t',r',h1',_,h2'⟩:=h';rw [h1] at h1';obtain ⟨rfl,rfl,_⟩:=Jwi h1';rw [h2,h2']
theorem Jtg:∀ a b:RF,(a.app b).list=a.list ++ b.list
 | .nil,b=>rfl
 | .cons nm t r,b=>by simp only [RF.app,RF.list,Jtg r b,List.cons_append]
open Classical in
noncomputable def Jxy (v:List YRow) (i:Nat):Option Nat:=if h:∃ j,Jq6 v i j then some h.choose else none
theorem J1o {v:List YRow} {i j:Nat} (h:Jq6 v i j):Jxy v i=some j:=by
 have hx:∃ j,Jq6 v i j:=⟨j,h⟩
 unfold Jxy;rw [dif_pos hx,J20 hx.choose_spec h]
theorem J0u {v:List YRow} {i:Nat} (h:∀ j,¬ Jq6 v i j):Jxy v i=none:=by
 unfold Jxy;rw [dif_neg];rintro ⟨j,hj⟩;exact h j hj
theorem Jun {v:List YRow} {i j:Nat} (h:Jq6 v i j):∃ y,v[i]? = some y∧Jqf y.kind y.s y.n y.c y.many∧y.many≤v.length:=by
 obtain ⟨nm,⟨k,s,n,c,K⟩,r,h1,h2,_⟩:=h;rw [Jqk,List.cons_append] at h1;refine ⟨⟨k,K.len,nm,s,n,c⟩,?_,(Jru.1 h2).1,?_⟩
 ·have:=congrArg (·[0]?) h1;simpa using this
 ·have h3:=congrArg List.length h1;have h4:=Jqz K;simp at h3;simp only;omega
theorem Ju8 {v:List YRow} {i j q:Nat} {y:YRow} {A:RF} (h:Jq6 v i j) (hy:v[i]? = some y) (hA:v.drop (i+1)=A.enc ++ v.drop q) (hq:q=i+1+A.enc.length) (hl:(A.len:Int)<y.many) :
  ∃ (nm:List UInt8) (t:RT) (B:RF),v.drop q=RT.enc nm t ++ (B.enc ++ v.drop j)∧okQ t∧Jrf y.kind (A.list ++ (nm,t) :: B.list):=by
 obtain ⟨nm,⟨k,s,n,c,K⟩,r,h1,h2,h3⟩:=h;rw [Jqk,List.cons_append] at h1;have e0:y=⟨k,K.len,nm,s,n,c⟩:=by
  have:=congrArg (·[0]?) h1;simp only [List.getElem?_drop,Nat.add_zero,List.getElem?_cons_zero,hy] at this;exact Option.some.inj this
 subst e0;simp only at hl ⊢;have h4:v.drop (i+1)=K.enc ++ r:=by
  rw [← List.drop_drop,h1];rfl
 obtain ⟨A',B,rfl,hA'⟩:=Jwb A.len K omg;rw [Jqp,List.append_assoc] at h4;rw [h4] at hA;obtain ⟨rfl,hB⟩:=Jzn hA hA';rw [Jrn] at hl
 match B,hB,hl,h2,h3 with
 | .nil,hB,hl,h2,h3=>simp [RF.len] at hl
 | .cons nm' t B,hB,hl,h2,h3 =>
  obtain ⟨_,g2,g3⟩:=Jru.1 h2;have g4:=(Jqo.1 (Jvd.1 g3).2).1;have hj:v.drop j=r:=by
   rw [h3,Jqk,List.length_cons,← Nat.add_assoc,Nat.add_right_comm,← List.drop_drop,h4,Jqp,List.length_append,← List.append_assoc,List.drop_left' (by rw [List.length_append])]
  refine ⟨nm',t,B,?_,g4,?_⟩
  ·rw [← hB,Jqh,List.append_assoc,hj]
  ·rw [Jtg] at g2;exact g2
theorem J31 {v:List YRow} {i q:Nat} {y:YRow} {A:RF} (hy:v[i]? = some y) (h1:Jqf y.kind y.s y.n y.c y.many) (hA:v.drop (i+1)=A.enc ++ v.drop q) (hq:q=i+1+A.enc.length) (hl:(A.len:Int)=y.many) (hk:Jrf y.kind A.list) (ho:okQF A):Jq6 v i q:=by
 obtain ⟨k,m,nm,s,n,c⟩:=y;simp only at h1 hl hk;subst hl;obtain ⟨hi,hv⟩:=List.getElem?_eq_some_iff.1 hy;refine ⟨nm,.mk k s n c A,v.drop q,?_,Jru.2 ⟨h1,hk,ho⟩,?_⟩
 ·rw [List.drop_eq_getElem_cons hi,hv,hA,Jqk,List.cons_append]
 ·rw [Jqk,List.length_cons];omega
def qnx (op:Int) (l:List RKT) (nm:List UInt8) (kd:Int):Prop:=(Jqj kd ↔ Jqj op∨op=7)∧(op≠8→nm=[])∧(op=8→valid nm=true)∧(op=4→l=[]→kd≠4)∧(op=8→nm ∉ l.map (·.1))
theorem J29 {op:Int} {l:List RKT} {p:RKT} (h:Jrf op l) (hp:qnx op l p.1 p.2.kind):Jrf op (l ++ [p]):=by
 obtain ⟨h1,h2,h3⟩:=h;obtain ⟨g1,g2,g3,g4,g5⟩:=hp;refine ⟨fun x hx=>?_,fun ho x hx=>?_,fun ho=>?_⟩
 ·rcases List.mem_append.1 hx with hx | hx
  ·exact h1 x hx
  ·rw [List.mem_singleton.1 hx];exact ⟨g1,g2,g3⟩
 ·cases l with
  | nil=>simp at hx;subst hx;exact g4 ho rfl
  | cons a l=>exact h2 ho x (by simpa using hx)
 ·rw [List.map_append,List.nodup_append];refine ⟨h3 ho,by simp,fun a ha b hb=>?_⟩;simp at hb;subst hb;rintro rfl;exact g5 ho ha
theorem J2f {op:Int} {l r:List RKT} {p:RKT} (h:Jrf op (l ++ p :: r)):qnx op l p.1 p.2.kind:=by
 obtain ⟨h1,h2,h3⟩:=h;obtain ⟨g1,g2,g3⟩:=h1 p sm;refine ⟨g1,g2,g3,fun ho hl=>?_,fun ho hm=>?_⟩
 ·subst hl;exact h2 ho p rfl
 ·have:=h3 ho;rw [List.map_append,List.nodup_append] at this;exact this.2.2 _ hm p.1 sm rfl
theorem Jrz {v:List YRow} {i j q:Nat} {y x:YRow} {A:RF} (h:Jq6 v i j) (hy:v[i]? = some y) (hx:v[q]? = some x) (hA:v.drop (i+1)=A.enc ++ v.drop q) (hq:q=i+1+A.enc.length) (hl:(A.len:Int)<y.many) :
  qnx y.kind A.list x.name x.kind∧∃ j',Jq6 v q j':=by
 obtain ⟨nm,t,B,h1,h2,h3⟩:=Ju8 h hy hA hq hl;have e:x.name=nm∧x.kind=t.kind:=by
  obtain ⟨k,s,n,c,K⟩:=t;rw [Jqk,List.cons_append] at h1;have:=congrArg (·[0]?) h1;simp only [List.getElem?_drop,Nat.add_zero,List.getElem?_cons_zero,hx] at this;cases Option.some.inj this;exact ⟨rfl,rfl⟩
 rw [e.1,e.2];exact ⟨J2f h3,_,nm,t,_,h1,h2,rfl⟩
theorem J0m {v:List YRow} {i j q:Nat} {y:YRow} {A:RF} (h:Jq6 v i j) (hy:v[i]? = some y) (hA:v.drop (i+1)=A.enc ++ v.drop q) (hq:q=i+1+A.enc.length) (hl:(A.len:Int)<y.many):q<v.length:=by
 obtain ⟨nm,t,B,h1,h2,h3⟩:=Ju8 h hy hA hq hl;have:=congrArg List.length h1;have hp:=Jrj t nm;rw [List.length_append,List.length_drop] at this;omega
theorem Jsk {v:List YRow} {i j:Nat} (h:Jq6 v i j):j≤v.length:=by
 obtain ⟨nm,t,r,h1,h2,h3⟩:=h;have:=congrArg List.length h1;have hp:=Jrj t nm;rw [List.length_append,List.length_drop] at this;omega
theorem Jso {v:List YRow} {i q j:Nat} {y x:YRow} {A:RF} (hx:v[q]? = some x) (hA:v.drop (i+1)=A.enc ++ v.drop q) (hq:q=i+1+A.enc.length) (hk:Jrf y.kind A.list) (ho:okQF A) (hn:qnx y.kind A.list x.name x.kind) (hj:Jq6 v q j) :
  ∃ B:RF,B.len=A.len+1∧v.drop (i+1)=B.enc ++ v.drop j∧j=i+1+B.enc.length∧q<j∧Jrf y.kind B.list∧okQF B∧B.list.map (·.1)=A.list.map (·.1) ++ [x.name]:=by
 obtain ⟨nm,t,r,h1,h2,h3⟩:=hj;have e:x.name=nm∧x.kind=t.kind:=by
  obtain ⟨k,s,n,c,K⟩:=t;rw [Jqk,List.cons_append] at h1;have:=congrArg (·[0]?) h1;simp only [List.getElem?_drop,Nat.add_zero,List.getElem?_cons_zero,hx] at this;cases Option.some.inj this;exact ⟨rfl,rfl⟩
 have hp:=Jrj t nm;have hr:v.drop j=r:=by rw [h3,← List.drop_drop,h1,List.drop_left]
 refine ⟨A.app (.cons nm t .nil),?_,?_,?_,by omega,?_,?_,?_⟩
 ·rw [Jrn];rfl
 ·rw [Jqp,Jqh,Jq0,List.append_nil,List.append_assoc,hr,← h1];exact hA
 ·rw [Jqp,Jqh,Jq0,List.append_nil,List.length_append];omega
 ·rw [Jtg];refine J29 hk ?_;rw [e.1,e.2] at hn;exact hn
 ·rw [Jvd,Jqo];exact ⟨ho,h2,Jrp⟩
 ·rw [Jtg,List.map_append,e.1];rfl
theorem J0y {op:Int} {s:List UInt8} {n:Int} {c:Node} {m:Int} (h:Jqf op s n c m):0≤m:=by
 unfold Jqf at h
 repeat' split at h
 all_goals first
  | exact h.elim
  | (have h1:=h.2.2.2;omega)
  | (have h1:=h.2.2.1;omega)
  | (have h1:=h.1;omega)
def HadM (es:List (PV×PV)) (l:List (List UInt8)):Prop:=MapF isStrKey es∧∀ k u,(k,u)∈es ↔ ∃ p∈l,k=.str p∧u=.bool true
theorem J54:HadM [] []:=⟨MapF.nil,by simp⟩
theorem J7a {es:List (PV×PV)} {l:List (List UInt8)} {nm:List UInt8} (h:HadM es l) (hn:nm∈l):∃ j,Cl (.str nm) es 0=some (some (j,.bool true)):=Jkm Jzz h.1 ((h.2 _ _).2 ⟨nm,hn,rfl,rfl⟩)
theorem J6e {es:List (PV×PV)} {l:List (List UInt8)} {nm:List UInt8} (h:HadM es l) (hn:nm ∉ l):Cl (.str nm) es 0=some none:=Jep Jzz ⟨nm,rfl⟩ h.1 fun u hu=>by
 obtain ⟨p,hp,e,_⟩:=(h.2 _ _).1 hu;cases e;exact hn hp
theorem Jtr {es:List (PV×PV)} {l:List (List UInt8)} (nm:List UInt8) (h:HadM es l):∃ es',mput (.str nm) (.bool true) es=some es'∧HadM es' (l ++ [nm]):=by
 obtain ⟨es',h1,h2,h3⟩:=Jhy (v:=.bool true) Jzz (k:=.str nm) ⟨nm,rfl⟩ h.1;refine ⟨es',h1,h2,fun k u=>?_⟩;rw [h3,h.2];constructor
 ·rintro (⟨rfl,rfl⟩ | ⟨_,p,hp,rfl,rfl⟩)
  ·exact ⟨nm,by simp,rfl,rfl⟩
  ·exact ⟨p,by simp [hp],rfl,rfl⟩
 ·rintro ⟨p,hp,rfl,rfl⟩;by_cases e:p=nm
  ·subst e;exact .inl ⟨rfl,rfl⟩
  ·refine .inr ⟨fun h=>e (by injection h),p,?_,rfl,rfl⟩;simpa [e] using hp
noncomputable def Jsv (v:List YRow) (i:Nat):L:=match Jxy v i with
 | some j=>.tup [.int .i64 j,.bool true]
 | none=>.tup [.int .i64 0,.bool false]
theorem Jrs {v:List YRow} {i j:Nat} (h:Jq6 v i j):Jsv v i=.tup [.int .i64 j,.bool true]:=by unfold Jsv;rw [J1o h]
theorem Jqu {v:List YRow} {i:Nat} (h:∀ j,¬ Jq6 v i j):Jsv v i=.tup [.int .i64 0,.bool false]:=by unfold Jsv;rw [J0u h]
def Jzf (v:List YRow) (i:Nat):Prop:=(∀ n∈v,RowFit n)∨∃ j,Jq6 v i j∧∀ q y,q<j→v[q]? = some y→RowFit y
theorem J09 {v:List YRow} {i:Nat} {y:YRow} (h:Jzf v i) (hy:v[i]? = some y):RowFit y:=by
 rcases h with h | ⟨j,hj,h⟩
 ·exact h y (List.mem_of_getElem? hy)
 ·obtain ⟨nm,t,r,h1,h2,h3⟩:=hj;have:=Jrj t nm;exact h i y omg hy
theorem J5p {v:List YRow} {i q:Nat} {y:YRow} {A:RF} (h:Jzf v i) (hy:v[i]? = some y) (hA:v.drop (i+1)=A.enc ++ v.drop q) (hq:q=i+1+A.enc.length) (hl:(A.len:Int)<y.many):Jzf v q:=by
 rcases h with h | ⟨j,hj,h⟩
 ·exact .inl h
 ·obtain ⟨nm,t,B,h1,h2,h3⟩:=Ju8 hj hy hA hq hl;refine .inr ⟨_,⟨nm,t,_,h1,h2,rfl⟩,fun r x hr hx=>h r x ?_ hx⟩;have hjl:=Jsk hj;have hp:=Jrj t nm;have:=congrArg List.length h1;simp only [List.length_append,List.length_drop] at this;omega
end Go.LX
