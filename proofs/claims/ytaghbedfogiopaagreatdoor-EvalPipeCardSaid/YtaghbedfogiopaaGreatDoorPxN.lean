/- Filters: the same, one behind the other. -/
import Derived.Test.YtaghbedfogiopaaGreatDoorPxM
set_option linter.unusedSimpArgs false
set_option linter.unusedVariables false
set_option linter.unusedSectionVars false
set_option linter.unnecessarySimpa false
set_option maxRecDepth 100000
set_option maxHeartbeats 2000000
namespace Go.LX
open Go Go.RowKit Go.Proofs
attribute [local irreducible] Al SWP Bi
def flatR (ls:List (List YRow)):List YRow:=ls.flatMap id
end Go.LX
namespace Go.LX
open Go Go.RowKit Go.Proofs Go.Proofs.Tryz
attribute [local irreducible] Al SWP Bi
theorem Klv {a b:RT}:Jrk (RF.cons [] a (.cons [] b .nil)).list=[[.sl (rowL (a.enc []))],[.sl (rowL (b.enc []))]]:=rfl
theorem Kly (a b:RT):Klu ⟨4,0,[],[],0,Juf⟩ [] [a.enc [],b.enc []]=(two a b).enc []:=by rw[Kjz];rfl
theorem Kln (a b:RT) (ha:(a.enc []).length<=3000) (hb:(b.enc []).length<=3000):Det cx 15 [.p (.agg [.int .i64 4,.int .i64 0,.str [],.str [],.int .i64 0,.int .i64 0,.int .i64 0,.str [],.str [],.bool false,.int .i64 0]),.p .snil,.p (.sl [[.sl (rowL (a.enc []))],[.sl (rowL (b.enc []))]])] [] (.p (.sl (rowL ((two a b).enc [])))) []:=by
 have h:=Klo ⟨4,0,[],[],0,Juf⟩ [a.enc [],b.enc []] sm (by
  intro i hi;simp only[Ead,Ea8] at hi;rcases (by omega:i=0\/i=1\/i=2) with rfl | rfl | rfl
  ·simp[Kl4]
  ·simp[Kl4,Klm];omega
  ·simp[Kl4,Klm];omega) (by
  intro v hv;simp only[Eak,Ebg,or_false] at hv;rcases hv with rfl | rfl<;>omega)
 rw[Kly] at h;exact h
theorem Klb (u:RT) (hu:(u.enc []).length<=1000) (t:RT) (ho:okQ t) (hc:¬ Jrm t.kind) (hl:(t.enc []).length<=1000):Det cx 25 [.p (.sl (rowL (t.enc []))),.p (.sl (rowL (u.enc [])))] [] (.p (.sl (rowL ((Kl3 t u).enc [])))) []:=by
 refine Kl6 (M:=fun t=>(t.enc []).length<=1000->Det cx 25 [.p (.sl (rowL (t.enc []))),.p (.sl (rowL (u.enc [])))] [] (.p (.sl (rowL ((Kl3 t u).enc [])))) []) (fun t h1 h2 h3 hl=>?_) (fun a b ha hb ca cb h4 ih hl=>?_) _ t (Eah _) ho hc hl
 ·have hC:=Kln t u omg omg;rw[Kl5 h3];cases t with
  | mk k s n c kids =>
   have hg0:(rowL ((RT.mk k s n c kids).enc []))[0]? = some [.int .i64 k,.int .i64 kids.len,.str [],.str s,.int .i64 n,.int .i64 c.kind,.int .i64 c.many,.str c.name,.str c.s,.bool c.neg,.int .i64 c.e]:=by rw[Jqs];rfl
   have e4:(k=4)=False:=eq_false h3;generalize rowL ((RT.mk k s n c kids).enc [])=rows at *
   (refine bgo func25 ?_;simp only[go_sem,simprocAttr,hg0,e4]);(repeat'(first|((refine Jqa hC ?_);simp only[go_sem,simprocAttr])|fail))
 ·rw[Kjz,Ead,Eac] at hl;have hP:=J3g [] 4 [] 0 Juf (.cons [] a (.cons [] b .nil)) (by rw[Jqv,Jqv,Jsd,Eaw,Eac];omega);rw[Klv] at hP;have hih:=ih omg;have hpl:=Kle (u:=u) hb cb;have hC:=Kln a (Kl3 b u) omg omg;have hg0:(rowL ((two a b).enc []))[0]? = some [.int .i64 4,.int .i64 2,.str [],.str [],.int .i64 0,.int .i64 0,.int .i64 0,.str [],.str [],.bool false,.int .i64 0]:=by rw[Kjz];rfl
  rw[Kl7];change Det cx 50 [.p (.sl (rowL ((two a b).enc [])))] [] _ [] at hP;generalize rowL ((two a b).enc [])=rows at hP hg0 ⊢;(refine bgo func25 ?_;simp only[go_sem,simprocAttr,hg0]);(repeat'(first|((first|refine Jqm ?_|refine Jqa hP ?_|refine Jqb hih ?_|refine Jqb hC ?_);simp only[go_sem,simprocAttr])|fail))
attribute [go_sem] ntmps6 results6 ntmps26 results26
def idT:RT:=.mk 0 [] 0 Juf .nil
theorem Kma {a b:RT}:wgt (two a b)=wgt a * wgt b:=by unfold two;rw[J2d,J46,J46,J7c];rfl
theorem Kk3 {f:RT}:wgt (mapQ f)=wgt f:=by unfold mapQ;rw[J2d,J46,J7c];rfl
theorem Klz {t u:RT} (ht:okQ t) (ct:¬ Jrm t.kind):wgt (Kl3 t u)=wgt t * wgt u:=by
 refine Kl6 (M:=fun t=>wgt (Kl3 t u)=wgt t * wgt u) (fun t h1 h2 h3=>?_) (fun a b ha hb ca cb h4 ih=>?_) _ t (Eah _) ht ct
 ·rw[Kl5 h3,Kma]
 ·rw[Kl7,Kma,Kma,ih,Eb6]
theorem Kla {a b:RT} (ha:FitQ a) (hb:FitQ b):FitQ (two a b):=fun r hr=>by
 rw[Kjz] at hr;rcases Eak.1 hr with rfl | hr
 ·exact ⟨by simp,by simp⟩
 ·rcases Eax.1 hr with hr | hr
  ·exact ha r hr
  ·exact hb r hr
theorem Klk {a b:RT} (h:FitQ (two a b)):FitQ a/\FitQ b:=by
 unfold FitQ at h;rw[Kjz] at h;exact ⟨fun r hr=>h r (Eai _ (Eb9 _ hr)),fun r hr=>h r (Eai _ (Ecb _ hr))⟩
theorem Kmc {t u:RT} (ht:okQ t) (ct:¬ Jrm t.kind) (h:FitQ t) (hu:FitQ u):FitQ (Kl3 t u):=by
 refine Kl6 (M:=fun t=>FitQ t->FitQ (Kl3 t u)) (fun t h1 h2 h3 h=>?_) (fun a b ha hb ca cb h4 ih h=>?_) _ t (Eah _) ht ct h
 ·rw[Kl5 h3];exact Kla h hu
 ·rw[Kl7];exact Kla (Klk h).1 (ih (Klk h).2)
theorem Klg (f:RT):(mapQ f).enc []=⟨5,1,[],[],0,Juf⟩ :: f.enc []:=by
 unfold mapQ;rw[Jqs,Jqv,Jsd,Eaw];rfl
theorem Klc {f:RT} (h:FitQ f):FitQ (mapQ f):=fun r hr=>by
 rw[Klg] at hr;rcases Eak.1 hr with rfl | hr
 ·exact ⟨by simp,by simp⟩
 ·exact h r hr
theorem Klr {f:RT} (h:okQ f) (c:¬ Jrm f.kind):okQ (mapQ f):=by
 have c5:¬ (Jrm 5\/(5:Int)=7):=by unfold Jrm;omega
 refine Jwl.2 ⟨(by rw[show ((RF.cons [] f .nil).len:Int)=1 from rfl];decide),⟨?_,?_,?_⟩,Jvi.2 ⟨h,Jvm⟩⟩
 ·intro p hp;simp only[RF.list,Eak,Ebg,or_false] at hp;subst hp;exact ⟨⟨fun h=>absurd h c,fun h=>absurd h c5⟩,fun _=>rfl,fun h=>absurd h omg⟩
 ·intro h;exact absurd h omg
 ·intro h;exact absurd h omg
theorem id_ok:okQ idT:=Jwl.2 ⟨by decide,J2f _,Jvm⟩
theorem Kls (v:Tree):Jql idT v=.ok v:=by unfold idT;rw[Jww];rfl
theorem Kl1:FitQ idT:=fun r hr=>by
 rw[show idT.enc []=[⟨0,0,[],[],0,Juf⟩] from rfl] at hr;simp only[Eak,Ebg,or_false] at hr;subst hr;exact ⟨by simp,by simp⟩
theorem Klx (f:RT):Klu ⟨5,0,[],[],0,Juf⟩ [] [f.enc []]=(mapQ f).enc []:=by rw[Klg];rfl
theorem Kl8 (f:RT) (hf:(f.enc []).length<=3000):Det cx 26 [.p (.sl (rowL (f.enc [])))] [] (.p (.sl (rowL ((mapQ f).enc [])))) []:=by
 have h:=Klo ⟨5,0,[],[],0,Juf⟩ [f.enc []] sm (by
  intro i hi;simp only[Ead,Ea8] at hi;rcases (by omega:i=0\/i=1) with rfl | rfl
  ·simp[Kl4]
  ·simp[Kl4,Klm];omega) (by
  intro v hv;simp only[Eak,Ebg,or_false] at hv;subst hv;omega)
 rw[Klx] at h;change Det cx _ [.p (.agg [.int .i64 5,.int .i64 0,.str [],.str [],.int .i64 0,.int .i64 0,.int .i64 0,.str [],.str [],.bool false,.int .i64 0]),.p .snil,.p (.sl [[.sl (rowL (f.enc []))]])] [] _ [] at h;generalize rowL (f.enc [])=R at *
 generalize rowL ((mapQ f).enc [])=M at *
 (refine bgo func26 ?_;simp only[go_sem,simprocAttr]);(repeat'(first|((refine Jqa h ?_);simp only[go_sem,simprocAttr])|fail))
theorem Klq (a b:List YRow) (u:List Node) (ha:FiFit a) (hb:FiFit b) (hu:ValFit u):Det cx 6 [.p (.sl (rowL a)),.p (.sl (rowL b)),.p (.sl (valL u))] [] (.p (.bool true)) []:=by
 have hG:=J5i a u ha hu;have hH:=J5i b u hb hu;cases b1:Jvn a 40 with
 | false =>
  rw[b1,Bool.false_and] at hG;(refine bgo func6 ?_;simp only[go_sem,simprocAttr]);(repeat'(first|((first|refine Jqa hG ?_|refine Jqa Jsw ?_);simp only[go_sem,simprocAttr])|fail))
 | true =>
 cases b2:fewB u 40 with
 | false =>
  rw[b1,b2] at hG;(refine bgo func6 ?_;simp only[go_sem,simprocAttr]);(repeat'(first|((first|refine Jqa hG ?_|refine Jqa Jsw ?_);simp only[go_sem,simprocAttr])|fail))
 | true =>
 rw[b1,b2] at hG;cases b3:Jvn b 40 with
 | false =>
  rw[b3,Bool.false_and] at hH;(refine bgo func6 ?_;simp only[go_sem,simprocAttr]);(repeat'(first|((first|refine Jqa hG ?_|refine Jqa hH ?_|refine Jqa Jsw ?_);simp only[go_sem,simprocAttr])|fail))
 | true =>
 rw[b3,b2] at hH;obtain ⟨f,fo,fc,rfl,fl,ff⟩:=J0m b1;obtain ⟨g,go,gc,rfl,gl,gf⟩:=J0m b3;obtain ⟨x,hx,rfl,hxl,hxf⟩:=Fw hu b2;have hgx:GT x:=⟨hx,hxf⟩
 have lp:=Jsi f [];have lq:=Jsi g [];have ws:IntKind.i64.wrap (((f.enc []).length:Int)+((g.enc []).length:Int))=(((f.enc []).length+(g.enc []).length:Nat):Int):=by rw[Aa omg omg];omega
 by_cases h40:(f.enc []).length+(g.enc []).length<=40
 case neg =>
  have c1:((40:Int)<(((f.enc []).length+(g.enc []).length:Nat):Int))=True:=eq_true omg;(refine bgo func6 ?_;simp only[go_sem,simprocAttr]);(repeat'(first|((first|refine Jqa hG ?_|refine Jqa hH ?_|refine Jqa Jsw ?_);simp only[go_sem,simprocAttr,Jq0,ws,c1])|fail))
 case pos =>
 have c1:((40:Int)<(((f.enc []).length+(g.enc []).length:Nat):Int))=False:=eq_false omg;have c4:¬ Jrm 4:=by unfold Jrm;omega
 have c0:¬ Jrm 0:=by unfold Jrm;omega
 have c5:¬ Jrm 5:=by unfold Jrm;omega
 have po:=Klt fo fc go gc;have pc:¬ Jrm (Kl3 f g).kind:=by rw[Kk5];exact c4
 have pl:=Kle (u:=g) fo fc;have pw:=Klz (u:=g) fo fc;have pb:=J3i (J1k _ (Kl3 f g) (Eah _) po) omg hxl;have g1:=Jtj g;have fb:(x.enc []).length * wgt f<=431626127400:=by
  rw[pw] at pb;have:=Ecc (x.enc []).length (Ecp (wgt f) g1);omega
 have hP:=Klb g omg f fo fc omg;have hEf:=J1m _ f (Eah _) fo fc ff omg x hx hxf omg;have hEp:=J1m _ (Kl3 f g) (Eah _) po pc (Kmc fo fc ff gf) omg x hx hxf omg;rw[Kk4 fo fc] at hEp;cases he:Jql f x with
 | error e =>
  rw[he,getR] at hEf;rw[he] at hEp;simp only[getR] at hEp;rcases Jy4 _ f x e (Eah _) he with rfl | rfl
  ·(refine bgo func6 ?_;simp only[go_sem,simprocAttr]);(repeat'(first|((first|refine Jqa hG ?_|refine Jqa hH ?_|refine Jqa hP ?_|refine Jqa hEf ?_|refine Jqa hEp ?_|refine Jqa Jsw ?_);simp only[go_sem,simprocAttr,Jq0,ws,c1])|fail))
  ·(refine bgo func6 ?_;simp only[go_sem,simprocAttr]);(repeat'(first|((first|refine Jqa hG ?_|refine Jqa hH ?_|refine Jqa hP ?_|refine Jqa hEf ?_|refine Jqa hEp ?_|refine Jqa Jsw ?_);simp only[go_sem,simprocAttr,Jq0,ws,c1])|fail))
 | ok y =>
 rw[he,getR] at hEf;rw[he] at hEp;simp only at hEp;obtain ⟨hgy,hyl⟩:=Jzj _ f (Eah _) fo fc ff x y hgx omg he;have hyb:(y.enc []).length * wgt g<=431626127400:=by
  have:=Ea3 (wgt g) hyl;rw[Ecg (wgt f),Eb6,<- pw] at this;omega
 have hyn:(y.enc []).length<=431626127400:=by
  have:=Ecp (y.enc []).length g1;omega
 have hEg:=J1m _ g (Eah _) go gc gf omg y hgy.1 hgy.2 omg;have io:=id_ok;have io2:=Kmd io fo c0 fc (by decide:(0:Int)≠4);have hPi:=Klb f omg idT io c0 de;rw[Kl5 (by decide:idT.kind≠4)] at hPi;have hEi:=J1m _ (two idT f) (Eah _) io2 c4 (Kla Kl1 ff) (by rw[Kjz];simp only[Ead,Eac];have:(idT.enc []).length=1:=rfl;omega) x hx hxf (by
  rw[Kma,show wgt idT=3 from by unfold idT;rw[J2d];rfl];have:=J3i (J1k _ (two idT f) (Eah _) io2) (by rw[Kjz];simp only[Ead,Eac];have:(idT.enc []).length=1:=rfl;omega) hxl;rw[Kma,show wgt idT=3 from by unfold idT;rw[J2d];rfl] at this;omega)
 rw[Khr,Kls] at hEi;simp only[he,getR] at hEi;have jo:=Klt fo fc io c0;have hPj:=Klb idT de f fo fc omg;have jl:=Kle (u:=idT) fo fc;have il:(idT.enc []).length=1:=rfl;have hEj:=J1m _ (Kl3 f idT) (Eah _) jo (by rw[Kk5];exact c4) (Kmc fo fc ff Kl1) omg x hx hxf (by
  have:=J3i (J1k _ (Kl3 f idT) (Eah _) jo) omg hxl;omega)
 rw[Kk4 fo fc,he] at hEj;simp only[Kls,getR] at hEj;have hSy:=Kkl (y.enc []) (y.enc []) omg omg;rw[decide_eq_true rfl] at hSy;have hMp:=Kl8 (Kl3 f g) omg;have hMf:=Kl8 f omg;have hMg:=Kl8 g omg;have mo:=Klr po pc;have mfo:=Klr fo fc;have mgo:=Klr go gc;have ml:∀ t:RT,((mapQ t).enc []).length=(t.enc []).length+1:=fun t=>by rw[Klg];rfl
 have hEs:=J1m _ (mapQ (Kl3 f g)) (Eah _) mo c5 (Klc (Kmc fo fc ff gf)) (by rw[ml];omega) x hx hxf (by rw[Kk3];omega);have hPm:=Klb (mapQ g) (by rw[ml];omega) (mapQ f) mfo c5 (by rw[ml];omega);rw[Kl5 (t:=mapQ f) (show (5:Int)≠4 by decide)] at hPm;have hEt:=J1m _ (two (mapQ f) (mapQ g)) (Eah _) (Kmd mfo mgo c5 c5 (by decide:(5:Int)≠4)) c4 (Kla (Klc ff) (Klc gf)) (by rw[Kjz];simp only[Ead,Eac,ml];omega) x hx hxf (by rw[Kma,Kk3,Kk3,<- pw];omega);have hid:rowL (idT.enc [])=[[.int .i64 0,.int .i64 0,.str [],.str [],.int .i64 0,.int .i64 0,.int .i64 0,.str [],.str [],.bool false,.int .i64 0]]:=rfl;rw[hid] at hPi hPj;have hms:∀ z,Jql (mapQ (Kl3 f g)) x=.ok z->(z.enc []).length<=450000000000:=fun z hz=>by
  have:=(Jzj _ (mapQ (Kl3 f g)) (Eah _) mo c5 (Klc (Kmc fo fc ff gf)) x z hgx (by rw[Kk3];omega) hz).2;rw[Kk3,Ecg] at this;omega
 cases hg:Jql g y with
 | error e =>
  rw[hg,getR] at hEg hEp;cases hs:Jql (mapQ (Kl3 f g)) x with
  | error e2 =>
   have cE:((e2:Int)=0)=False:=eq_false (by rcases Jy4 _ _ x e2 (Eah _) hs with rfl | rfl<;>decide);rw[hs,getR] at hEs;rw[Jqz] at hEt;(refine bgo func6 ?_;simp only[go_sem,simprocAttr]);(repeat'(first|((first|refine Jqa hG ?_|refine Jqa hH ?_|refine Jqa hP ?_|refine Jqa hEf ?_|refine Jqa hEp ?_|refine Jqa hEg ?_|refine Jqa hPi ?_|refine Jqa hEi ?_|refine Jqa hPj ?_|refine Jqa hEj ?_|refine Jqa hSy ?_|refine Jqa hMp ?_|refine Jqa hEs ?_|refine Jqa hMf ?_|refine Jqa hMg ?_|refine Jqa hPm ?_|refine Jqa hEt ?_|refine Jqa Jz ?_|refine Jqa Jsw ?_);simp only[go_sem,simprocAttr,Jq0,ws,c1,cE])|fail))
  | ok z =>
   rw[hs,getR] at hEs;rw[Klj fo fc hs,getR] at hEt;have hzl:=hms z hs;have hSz:=Kkl (z.enc []) (z.enc []) omg omg;rw[decide_eq_true rfl] at hSz;(refine bgo func6 ?_;simp only[go_sem,simprocAttr]);(repeat'(first|((first|refine Jqa hG ?_|refine Jqa hH ?_|refine Jqa hP ?_|refine Jqa hEf ?_|refine Jqa hEp ?_|refine Jqa hEg ?_|refine Jqa hPi ?_|refine Jqa hEi ?_|refine Jqa hPj ?_|refine Jqa hEj ?_|refine Jqa hSy ?_|refine Jqa hMp ?_|refine Jqa hEs ?_|refine Jqa hMf ?_|refine Jqa hMg ?_|refine Jqa hPm ?_|refine Jqa hEt ?_|refine Jqa Jz ?_|refine Jqa hSz ?_|refine Jqa Jsw ?_);simp only[go_sem,simprocAttr,Jq0,ws,c1])|fail))
 | ok w =>
  rw[hg,getR] at hEg hEp;have hwl:(w.enc []).length<=450000000000:=by
   have:=(Jzj _ g (Eah _) go gc gf y w hgy omg hg).2;rw[Ecg] at this;omega
  have hSw:=Kkl (w.enc []) (w.enc []) omg omg;rw[decide_eq_true rfl] at hSw;cases hs:Jql (mapQ (Kl3 f g)) x with
  | error e2 =>
   have cE:((e2:Int)=0)=False:=eq_false (by rcases Jy4 _ _ x e2 (Eah _) hs with rfl | rfl<;>decide);rw[hs,getR] at hEs;rw[Jqz] at hEt;(refine bgo func6 ?_;simp only[go_sem,simprocAttr]);(repeat'(first|((first|refine Jqa hG ?_|refine Jqa hH ?_|refine Jqa hP ?_|refine Jqa hEf ?_|refine Jqa hEp ?_|refine Jqa hEg ?_|refine Jqa hPi ?_|refine Jqa hEi ?_|refine Jqa hPj ?_|refine Jqa hEj ?_|refine Jqa hSy ?_|refine Jqa hMp ?_|refine Jqa hEs ?_|refine Jqa hMf ?_|refine Jqa hMg ?_|refine Jqa hPm ?_|refine Jqa hEt ?_|refine Jqa hSw ?_|refine Jqa Jsw ?_);simp only[go_sem,simprocAttr,Jq0,ws,c1,cE])|fail))
  | ok z =>
   rw[hs,getR] at hEs;rw[Klj fo fc hs,getR] at hEt;have hzl:=hms z hs;have hSz:=Kkl (z.enc []) (z.enc []) omg omg;rw[decide_eq_true rfl] at hSz;(refine bgo func6 ?_;simp only[go_sem,simprocAttr]);(repeat'(first|((first|refine Jqa hG ?_|refine Jqa hH ?_|refine Jqa hP ?_|refine Jqa hEf ?_|refine Jqa hEp ?_|refine Jqa hEg ?_|refine Jqa hPi ?_|refine Jqa hEi ?_|refine Jqa hPj ?_|refine Jqa hEj ?_|refine Jqa hSy ?_|refine Jqa hMp ?_|refine Jqa hEs ?_|refine Jqa hMf ?_|refine Jqa hMg ?_|refine Jqa hPm ?_|refine Jqa hEt ?_|refine Jqa hSw ?_|refine Jqa hSz ?_|refine Jqa Jsw ?_);simp only[go_sem,simprocAttr,Jq0,ws,c1])|fail))
end Go.LX
