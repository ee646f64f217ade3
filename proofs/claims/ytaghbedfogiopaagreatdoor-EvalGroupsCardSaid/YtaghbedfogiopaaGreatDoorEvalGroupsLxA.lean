/- Filters: groups, one behind the other. -/
import Derived.Test.YtaghbedfogiopaaGreatDoorLxZ
set_option linter.unusedSimpArgs false
set_option linter.unusedVariables false
set_option linter.unusedSectionVars false
set_option linter.unnecessarySimpa false
set_option maxRecDepth 100000
set_option maxHeartbeats 2000000
namespace Go.LX
open Go Go.RowKit Go.Proofs
attribute [local irreducible] Al SWP Bi
attribute [go_sem] Tryz.ntmps8 Tryz.results8
theorem Mm (v:List Node) (i j:Nat) (nm:List UInt8) (t:Tree) (rest:List Node) (hv:v.length<=1500000000000) (h:v.drop i=t.enc nm ++ rest) (hj:j=i+(t.enc nm).length):Det cx 82 [.p (.sl (valL v)),.p (.int .i64 i),.p (.int .i64 j)] [] (.p (.sl (valL (t.enc [])))) []:=by
 cases t with
 | mk k s g e kids =>
 have hs:=Tf h;have hb:=L9 h (fun e=>by have e2:=congrArg List.length e;rw [A6] at e2;simp at e2);have hel:((Tree.mk k s g e kids).enc nm).length=kids.enc.length+1:=by rw [A6];rfl
 rw [Eac] at hb;have hs':((valL v).drop i).take (j - i)=[.int .i64 k,.int .i64 kids.len,.str nm,.str s,.bool g,.int .i64 e] :: valL kids.enc:=by
  rw [hj,Ecp,hs,A6,Nh,C9]
 have htk:(valL kids.enc).take kids.enc.length=valL kids.enc:=Ead sm;have h6:∀ q∈([.int .i64 k,.int .i64 kids.len,.str nm,.str s,.bool g,.int .i64 e] :: valL kids.enc:List (List PV)),q.length=6:=fun q hq=>E7 ((Tree.mk k s g e kids).enc nm) q (by rw [A6];exact hq)
 (refine bgo Tryz.func82 ?_;simp only [go_sem,simprocAttr,hs',A7,htk,Eai]);(repeat' (first|(refine And.intro (E7 _) ?_)|refine Jqj ?_|fail));rw [A6];rfl
theorem Dy (nm:List UInt8) (kd:Int) (s:List UInt8) (g:Bool) (e:Int) (kids:Forest) (hv:kids.enc.length<=1499999999999):Det cx 29 [.p (.sl (valL ((Tree.mk kd s g e kids).enc nm)))] [] (.p (.sl (A4 kids.list))) []:=by
 have hl:=Jqi kids;have hkl:=Jqh kids;generalize hvv:(Tree.mk kd s g e kids).enc nm=v;have h0:v.drop 0=⟨kd,kids.len,nm,s,g,e⟩ :: kids.enc:=by rw [<- hvv,A6];rfl
 have hg0:=D5 h0;rw [C9] at hg0;have hvl:v.length=kids.enc.length+1:=by rw [<- hvv,A6];rfl
 (refine bgo Tryz.func29 ?_;simp only [go_sem,simprocAttr]);refine Jqg (B1 [(7,25)] _ sm) ?_;simp only [go_sem,simprocAttr];refine SWP.loop (fun x:Nat×Nat×Forest=>⟨Ba 28 [(0,.p (.sl (valL v))),(3,.own 25 0 x.1),(4,.p (.int .i64 x.2.1)),(5,.p (.int .i64 x.1))],[(25,.row 25 1 (A4 (kids.list.take x.1)))]⟩) (fun x=>x.1+x.2.2.len=kids.len/\v.drop x.2.1=x.2.2.enc/\x.2.1+x.2.2.enc.length=v.length/\kids.list.drop x.1=x.2.2.list) (fun x=>x.2.2.enc.length) (0,1,kids) Jqc ⟨by simp,by rw [<- hvv,A6];rfl,by simp only;omega,rfl⟩ ?_;rintro ⟨k,j,F⟩ ⟨h1,h2,h3,h4⟩;simp only at h1 h2 h3 h4 ⊢
 match F,h1,h2,h3,h4 with
 | .nil,h1,h2,h3,h4 =>
  simp only [Forest.len] at h1;have hkk:k=kids.len:=by omega
  subst hkk;have hpl:(kids.len<=(A4 (kids.list.take kids.len)).length)=True:=eq_true (by rw [A5,Eaw];omega);have htk:(A4 (kids.list.take kids.len)).take kids.len=A4 kids.list:=by
   rw [Ead (by rw [A5,Eaw];omega),Ead omg]
  have hgj:=hpl;(refine lws ?_;simp only [go_sem,simprocAttr,hg0,hpl,htk]);(repeat' (first|(apply iteI<;>intro h)|(exact True.intro)|(exfalso;omega)))
  skip
 | .cons nm' t' r,h1,h2,h3,h4 =>
  rw [F2] at h1;rw [A0] at h2 h3;rw [Eac] at h3;have hkk:kids.list[k]? = some (nm',t'):=by
   have:=congrArg (·[0]?) h4;simpa [Forest.list] using this
  have hpk:=Gs hkk;have hpl:(A4 (kids.list.take k)).length=k:=by rw [A5,Eaw];omega
  have hw:=wj1 (i:=k) omg;have htk:=hw;have hgj:=hw;(refine lws ?_;simp only [go_sem,simprocAttr,hg0,hpl]);(repeat' (first|(apply iteI<;>intro h)|((first|(refine Jqa (Cs v j nm' t' r.enc omg h2) ?_)|(refine Jqa (Mm v j (j+(t'.enc nm').length) nm' t' r.enc omg h2 rfl) ?_));simp only [go_sem,simprocAttr,hpl,htk])|(exfalso;omega)));refine ⟨by simp,by omega,by omega,(k+1,j+(t'.enc nm').length,r),⟨by simp only;omega,by simp only;rw [<- Ebg,h2,Ec4],by simp only;omega,by simp only;rw [<- Ebg,h4];rfl⟩,by have:=Et t' nm';simp only [A0,Eac];omega,?_⟩;simp only;rw [hpk];exact Jqc
theorem Tt (l:List (List UInt8×Tree)) (hv:(A1 (unn l)).enc.length<=1499999999999):Det cx 30 [.p (.sl (A4 l))] [] (.p (.sl (valL ((Tree.mk 5 [] false 0 (A1 (unn l))).enc [])))) []:=by
 have hll:=Jqi (A1 (unn l));rw [Ca,Kp] at hll;(refine bgo Tryz.func30 ?_;simp only [go_sem,simprocAttr,A5]);refine Jqg (B1 [(8,20)] _ sm) ?_;simp only [go_sem,simprocAttr];refine SWP.loop (fun x:Nat×Nat×List (List PV)=>⟨Ba 22 [(0,.p (.sl (A4 l))),(3,.own 20 0 x.2.1),(4,.p (.int .i64 x.1))],[(20,.row 36 6 x.2.2)]⟩) (fun x=>x.1<=l.length/\x.2.1=(A1 ((unn l).take x.1)).enc.length+1/\x.2.2=hdK 5 l.length :: valL (A1 ((unn l).take x.1)).enc) (fun x=>l.length - x.1) (0,1,[hdK 5 l.length]) (by unfold hdK;exact Jqc) ⟨Eav _,rfl,rfl⟩ ?_;rintro ⟨k,m,es⟩ ⟨hk,hm',hes⟩;simp only at hk hm' hes;have hml:es.length=m:=by rw [hes,hm'];simp
 have htk:es.take m=es:=Ead omg;by_cases hlt:¬ k<l.length
 ·have htl:(unn l).take k=unn l:=Ead (by rw [Kp];omega);rw [htl] at hes hm';have hkl:((k:Int)<(l.length:Int))=False:=eq_false omg;have hpl:=hkl;have hw:=hkl;(refine lws ?_;simp only [go_sem,simprocAttr,A5,hkl,hml,htk,Eai]);rw [hes,A6,Ca,Kp];rfl
 ·have hlt:=Ea1.1 hlt;obtain ⟨p,hp⟩:∃ p,l[k]? = some p:=⟨_,Eaa hlt⟩
  have hpl:(A4 l)[k]? = some [.sl (valL (p.2.enc []))]:=by simp [A4,hp]
  have hup:(unn l)[k]? = some ([],p.2):=by simp [unn,hp]
  have hkl:((k:Int)<(l.length:Int))=True:=eq_true omg;have h1:=Nu hup;have h2:=Oi (unn l) (k+1);rw [h1,Eac] at h2;have hw:=wj1 (i:=k) omg;(refine lws ?_;simp only [go_sem,simprocAttr,A5,hkl,hpl,hw,hml,A7]);simp only at h1 h2;refine ⟨E7 _,by omega,by omega,(k+1,m+(p.2.enc []).length,es ++ valL (p.2.enc [])),⟨by simp only;omega,?_,?_⟩,by simp only;omega,?_⟩
  ·simp only;rw [h1,Eac,hm'];omega
  ·simp only;rw [h1,Ji,hes];rfl
  ·exact Jqc
theorem Js4 (l:List Tree) (h:Jqn l<=1499999999999):Det cx 30 [.p (.sl (Jqd l))] [] (.p (.sl (valL ((listT l).enc [])))) []:=by
 have hL:=Tt (unT l) (by rw [J1i,J1d];exact h);rw [J1i,<- J3z] at hL;exact hL
theorem Jvp (v:Tree) (hv:(v.enc []).length<=1500000000000):Det cx 29 [.p (.sl (valL (v.enc [])))] [] (.p (.sl (Jqd (Jqe v)))) []:=by
 obtain ⟨k,s',g,e,kids⟩:=v;have hP:=Dy [] k s' g e kids (by rw [A6,List.length_cons] at hv;omega);rw [Jst] at hP;exact hP
theorem J4q {p:List Step}:∀ {l:List Tree} {e:Nat},Jru p l=.error e->e=5
 | [],e,h=>by rw [Jru] at h;cases h
 | t :: l,e,h=>by
  rw [Jru] at h;cases hf:Jrd p t with
  | error e'=>rw [hf] at h;cases h;exact Jsp hf
  | ok u =>
   rw [hf] at h;cases hk:Jru p l with
   | error e'=>rw [hk] at h;cases h;exact J4q hk
   | ok ks'=>rw [hk] at h;cases h
theorem Kgs {s:List UInt8} {v:Tree} {ks:List Tree} (h:v.kind=5) (hk:Jru (Je s).1 (Jqe v)=.ok ks):Jte true s v=.ok (listT ((Jri ks).map fun g=>listT (Jqo (Jqe v) g))):=by unfold Jte;rw [if_pos h,hk];rfl
theorem Ki2 (s:List UInt8) (v:Tree):Jql (srtQ 12 s) v=Jte true s v:=by unfold srtQ;rw [Jww];rfl
theorem ev_grp (s:List UInt8) (hs:s.length<=1000) (v:Tree) (hg:GT v) (hv:(v.enc []).length<=1000):Det cx 12 [.p (.sl (rowL ((srtQ 12 s).enc []))),.p (.sl (valL (v.enc [])))] [] (getR (Jql (srtQ 12 s) v)) []:=by
 have hT:=J1o [] 12 s 0 Juf .nil (by simp [RF.enc]);have hF:=J4j 12 RF.nil.len [] s 0 Juf v (.inl rfl) omg hg.1 omg;rw [show decide ((12:Int)=12)=true from rfl] at hF;have hg0:(rowL ((RT.mk 12 s 0 Juf .nil).enc []))[0]? = some [.int .i64 12,.int .i64 RF.nil.len,.str [],.str s,.int .i64 0,.int .i64 Juf.kind,.int .i64 Juf.many,.str Juf.name,.str Juf.s,.bool Juf.neg,.int .i64 Juf.e]:=by rw [Jqs];rfl
 rw [Ki2];unfold srtQ;rw [Jqz] at hF ⊢;generalize rowL ((RT.mk 12 s 0 Juf .nil).enc [])=rows at *
 (refine bgo Tryz.func12 ?_;simp only [go_sem,simprocAttr,hg0]);(repeat' (first|((first|refine Jqa hT ?_|refine Jqa hF ?_);simp only [go_sem,simprocAttr])|fail))
theorem Ki4 {s:List UInt8} {x:Tree} (ok:okT x) (hk:x.kind=5) {ks:List Tree} (hke:Jru (Je s).1 (Jqe x)=.ok ks):∃ gs:List (List Tree),Jte false s x=.ok (listT gs.flatten)/\Jte true s x=.ok (listT (gs.map listT))/\(∀ g∈gs,g≠[])/\Jqn gs.flatten=Jqn (Jqe x):=by
 obtain ⟨okk,hl,_⟩:=Jzo (Jyu ok) hke;refine ⟨(Jri ks).map (Jqo (Jqe x)),?_,?_,?_,?_⟩
 ·rw [Kg9 hk hke,J94 okk]
 ·rw [Kgs hk hke,J91]
 ·intro g hg;obtain ⟨S,hS,rfl⟩:=Eap.1 hg;have:=J23 (Jt6 okk) S hS;intro h;have h2:=congrArg List.length h;rw [J3c] at h2;exact this (Eal h2)
 ·rw [J94 okk,Jxo hl]
theorem Kiw (u:List Node) (s:List UInt8) (hu:ValFit u) (hs:s.length<=9223372036854775807):Det cx 8 [.p (.sl (valL u)),.p (.str s)] [] (.p (.bool true)) []:=by
 have hG:=Ln u 40 omg (by have:=hu.len;omega) hu.node;cases b1:fewB u 40 with
 | false =>
  rw [b1] at hG;(refine bgo Tryz.func8 ?_;simp only [go_sem,simprocAttr]);(repeat' (first|((first|refine Jqa hG ?_|refine Jqa Jsw ?_);simp only [go_sem,simprocAttr])|fail))
 | true =>
 rw [b1] at hG;by_cases h60:s.length<=60
 case neg =>
  have c1:((60:Int)<(s.length:Int))=True:=eq_true omg;(refine bgo Tryz.func8 ?_;simp only [go_sem,simprocAttr]);(repeat' (first|((first|refine Jqa hG ?_|refine Jqa Jsw ?_);simp only [go_sem,simprocAttr,c1])|fail))
 case pos =>
 have c1:((60:Int)<(s.length:Int))=False:=eq_false omg;have hR:=Kbs [⟨13,0,[],s,0,Juf⟩] sm (fun n hn=>by
  simp only [Eaj,Ebc,or_false] at hn;subst hn;exact ⟨by simp only;omega,by simp,⟨by simp [Juf],by simp [Juf],by simp [Juf]⟩⟩)
 have hrow:rowL [⟨13,0,[],s,0,Juf⟩]=[[.int .i64 13,.int .i64 0,.str [],.str s,.int .i64 0,.int .i64 0,.int .i64 0,.str [],.str [],.bool false,.int .i64 0]]:=rfl;cases b2:Jtz [⟨13,0,[],s,0,Juf⟩] with
 | false =>
  rw [b2,hrow] at hR;(refine bgo Tryz.func8 ?_;simp only [go_sem,simprocAttr]);(repeat' (first|((first|refine Jqa hG ?_|refine Jqa hR ?_|refine Jqa Jsw ?_);simp only [go_sem,simprocAttr,c1])|fail))
 | true =>
 rw [b2,hrow] at hR;obtain ⟨x,hx,rfl,hxl,hxf⟩:=Fw hu b1;have hgx:GT x:=⟨hx,hxf⟩
 have e1:=Kje s omg x hgx omg;have e2:=ev_grp s omg x hgx omg;have r1:rowL ((srtQ 13 s).enc [])=[[.int .i64 13,.int .i64 0,.str [],.str s,.int .i64 0,.int .i64 0,.int .i64 0,.str [],.str [],.bool false,.int .i64 0]]:=rfl;have r2:rowL ((srtQ 12 s).enc [])=[[.int .i64 12,.int .i64 0,.str [],.str s,.int .i64 0,.int .i64 0,.int .i64 0,.str [],.str [],.bool false,.int .i64 0]]:=rfl;rw [r1,Khs] at e1;rw [r2,Ki2] at e2;by_cases k5:x.kind=5
 case neg =>
  rw [J7i k5,getR] at e1 e2;(refine bgo Tryz.func8 ?_;simp only [go_sem,simprocAttr]);(repeat' (first|((first|refine Jqa hG ?_|refine Jqa hR ?_|refine Jqa e1 ?_|refine Jqa e2 ?_|refine Jqa Jsw ?_);simp only [go_sem,simprocAttr,c1])|fail))
  all_goals exact (show IntKind.i64.wrap 0=0 by decide)
 case pos =>
 cases hke:Jru (Je s).1 (Jqe x) with
 | error e =>
  have:=J4q hke;subst this;rw [Kcd k5 hke,getR] at e1 e2;(refine bgo Tryz.func8 ?_;simp only [go_sem,simprocAttr]);(repeat' (first|((first|refine Jqa hG ?_|refine Jqa hR ?_|refine Jqa e1 ?_|refine Jqa e2 ?_|refine Jqa Jsw ?_);simp only [go_sem,simprocAttr,c1])|fail))
  all_goals exact (show IntKind.i64.wrap 0=0 by decide)
 | ok ks =>
 obtain ⟨gs,h1,h2,h3,h4⟩:=Ki4 hx k5 hke;have hz:=(Kds hgx h2).2;rw [h1,getR] at e1;rw [h2,getR] at e2;have hkx:=Jq1 x;have hP:=Jvp (listT (gs.map listT)) omg;rw [Khq] at hP;rw [Jsb] at hz;have hls:=Jrh gs.flatten;have hL:=Js4 gs.flatten omg;have hyl:((listT gs.flatten).enc []).length=Jqn gs.flatten+1:=Jsb _;have hS:=E2 ((listT gs.flatten).enc []) ((listT gs.flatten).enc []) omg omg;rw [decide_eq_true rfl] at hS;have q1:(valL ((listT gs.flatten).enc [])).length=Jqn gs.flatten+1:=by rw [A7,hyl]
 have q2:(valL ((listT (gs.map listT)).enc [])).length=Jqn (gs.map listT)+1:=by rw [A7,Jsb]
 have c2:(((Jqn gs.flatten+1:Nat):Int)=0)=False:=eq_false omg;have c3:(((Jqn (gs.map listT)+1:Nat):Int)=0)=False:=eq_false omg;have hgl:gs.length<=1000:=by
  have:=Jrh (gs.map listT);rw [Ea9] at this;omega
 generalize valL ((listT gs.flatten).enc [])=Y at *
 generalize valL ((listT (gs.map listT)).enc [])=Z at *
 (refine bgo Tryz.func8 ?_;simp only [go_sem,simprocAttr]);(repeat' (first|((first|refine Jqa hG ?_|refine Jqa hR ?_|refine Jqa e1 ?_|refine Jqa e2 ?_|refine Jqa hP ?_);simp only [go_sem,simprocAttr,c1,q1,q2,c2,c3])|fail));refine SWP.loop (fun i:Nat=>⟨Ba 98 [(5,.p (.sl Y)),(9,.own 71 0 (gs.take i).flatten.length),(10,.p (.sl (Jqd (gs.map listT)))),(11,.p (.int .i64 i))],[(71,.row 25 1 (Jqd (gs.take i).flatten))]⟩) (fun i=>i<=gs.length) (fun i=>gs.length - i) 0 Jqc (Eav _) ?_;rintro i hi;have hfl:(gs.take i).flatten.length<=gs.flatten.length:=by
  conv=>rhs;rw [<- Ebl i gs,Edb,Eac]
  omega
 have hpl:(Jqd (gs.take i).flatten).length=(gs.take i).flatten.length:=Jqf _;by_cases hlt:i<gs.length
 ·have c4:((i:Int)<(gs.length:Int))=True:=eq_true omg;obtain ⟨g,hq⟩:∃ g,gs[i]? = some g:=⟨_,Eaa hlt⟩
  have hgm:=Eae hq;have hgg:(Jqd (gs.map listT))[i]? = some [.sl (valL ((listT g).enc []))]:=Jq5 (by rw [Eam,hq];rfl);have hgz:=Jr0 (Eap.2 ⟨g,hgm,rfl⟩:listT g∈gs.map listT);have hPg:=Jvp (listT g) omg;rw [Khq] at hPg;have hg0:g.length≠0:=fun h=>h3 g hgm (Eal h)
  have hgl2:g.length<=1000:=by
   have:=Jrh g;rw [Jsb] at hgz;omega
  have c5:((g.length:Int)=0)=False:=eq_false omg;have w1:=wj1 (i:=i) omg;have hel:=Jvr g;have e3:(gs.take (i+1)).flatten=(gs.take i).flatten ++ g:=by
   rw [Ea8,hq,Option.toList_some,Edb];simp
  (refine lws ?_;simp only [go_sem,simprocAttr,Jqf,Ea9,c4,hgg]);(repeat' (first|(refine And.intro (by first | exact hel | (simp;done) | omega | (simp;omega)) ?_)|((refine Jqa hPg ?_);simp only [go_sem,simprocAttr,Jqf,c5,w1,hpl])|fail));refine ⟨i+1,by omega,by omega,?_⟩;refine (B1 [(90,71)] _ sm).trans ?_;simp only [go_sem,simprocAttr];rw [e3,Eac,Jrl];exact Jqc
 ·have hil:i=gs.length:=by omega
  subst hil;have c4:((gs.length:Int)<(gs.length:Int))=False:=eq_false omg;have htg:gs.take gs.length=gs:=Ead (Eai _);have htk:(Jqd gs.flatten).take gs.flatten.length=Jqd gs.flatten:=Ead (by rw [Jqf];exact Eai _);(refine lws ?_;simp only [go_sem,simprocAttr,Jqf,Ea9,c4,htg]);(repeat' (first|((first|refine Jqa hL ?_|refine Jqa hS ?_|refine Jqa Jsw ?_);simp only [go_sem,simprocAttr,Jqf,htk,Eai])|fail))
end Go.LX
