/- Values at a path. -/
import Derived.Test.YtaghbedfogiopaaGreatDoorLxR
import Derived.Lib.Overlaps
set_option linter.unusedSimpArgs false
set_option linter.unusedVariables false
set_option linter.unusedSectionVars false
set_option linter.unnecessarySimpa false
set_option maxRecDepth 100000
set_option maxHeartbeats 2000000
namespace Go.LX
open Go Go.RowKit Go.Proofs
attribute [local irreducible] Al SWP Bi
def getT:List Step->Tree->Except Nat Tree
 | [],t=>.ok t
 | x :: p,t=>match inT t x with
  | .ok u=>getT p u
  | .error e=>.error e
theorem Jd7:∀ {f:Forest} {p:List UInt8×Tree},p∈f.list->(p.2.enc []).length<=f.enc.length
 | .nil,p,h=>by cases h
 | .cons nm t r,p,h=>by
  rw [A0,Eac];rcases Eaj.1 h with rfl | h
  ·simp only;rw [G7 t nm];omega
  ·have:=Jd7 h;omega
theorem H2 {name:List UInt8}:∀ {l:List (List UInt8×Tree)} {t:Tree},Ch name l=some t->∃ p∈l,p.2=t/\p.1=name
 | [],t,h=>by cases h
 | p :: l,t,h=>by
  rw [Ch] at h;split at h
  ·cases h;exact ⟨p,Eaf,rfl,by assumption⟩
  ·obtain ⟨q,h1,h2⟩:=H2 h;exact ⟨q,Eag _ h1,h2⟩
theorem Jd5 {k:Int} {s:List UInt8} {g:Bool} {e:Int} {kids:Forest} {x:Step} {u:Tree} (h:inT (.mk k s g e kids) x=.ok u):∃ p∈kids.list,p.2=u:=by
 cases hp:x.part
 ·by_cases hk:k=6
  ·subst hk;rw [Tp hp] at h;cases hf:Ch x.name kids.list with
   | none=>rw [hf] at h;cases h
   | some t =>
    rw [hf] at h;cases h;obtain ⟨p,h1,h2,_⟩:=H2 hf;exact ⟨p,h1,h2⟩
  ·rw [Iw hp hk] at h;cases h
 ·by_cases hk:k=5
  ·subst hk;rw [Tm hp] at h;cases hf:kids.list[x.n.toNat]? with
   | none=>rw [hf] at h;cases h
   | some p =>
    rw [hf] at h;cases h;exact ⟨p,Eae hf,rfl⟩
  ·rw [Iz hp hk] at h;cases h
theorem M2 {t:Tree} {x:Step} {er:Nat} (h:inT t x=.error er):er=5\/er=6:=by
 cases t with
 | mk k s g e kids =>
  cases hp:x.part
  ·by_cases hk:k=6
   ·subst hk;rw [Tp hp] at h;cases hf:Ch x.name kids.list with
    | none=>rw [hf] at h;cases h;exact .inr rfl
    | some t=>rw [hf] at h;cases h
   ·rw [Iw hp hk] at h;cases h;exact .inl rfl
  ·by_cases hk:k=5
   ·subst hk;rw [Tm hp] at h;cases hf:kids.list[x.n.toNat]? with
    | none=>rw [hf] at h;cases h;exact .inr rfl
    | some p=>rw [hf] at h;cases h
   ·rw [Iz hp hk] at h;cases h;exact .inl rfl
theorem Q7 {t u:Tree} {x:Step} (h:inT t x=.ok u):(u.enc []).length+1<=(t.enc []).length:=by
 cases t with
 | mk k s g e kids =>
  obtain ⟨p,h1,rfl⟩:=Jd5 h;have:=Jd7 h1;rw [A6,List.length_cons];omega
theorem M1 (p:List Step) (t:Tree) (hp:p.length<=1000000) (hok:∀ x∈p,Bc x) (hv:(t.enc []).length<=1500000000000):Det cx 66 [.p (.sl (Bb p)),.p (.sl (valL (t.enc [])))] [] (getR (getT p t)) []:=by
 (refine bgo Tryz.func66 ?_;simp only [go_sem,simprocAttr,Aq]);refine SWP.loop (fun x:Nat×Tree=>⟨Ba 28 [(0,.p (.sl (Bb p))),(1,.p (.sl (valL (x.2.enc [])))),(10,.p (.sl (Bb p))),(11,.p (.int .i64 p.length)),(12,.p (.int .i64 x.1))],[]⟩) (fun x=>x.1<=p.length/\(x.2.enc []).length<=1500000000000/\getT (p.drop x.1) x.2=getT p t) (fun x=>p.length - x.1) (0,t) Jqc ⟨Eav _,hv,rfl⟩ ?_;rintro ⟨i,u⟩ ⟨h1,h2,h3⟩;simp only at h1 h2 h3;by_cases hi:¬ i<p.length
 ·have c1:((i:Int)<(p.length:Int))=False:=eq_false omg;rw [show p.drop i=[] from Ear omg,getT] at h3;(refine lws ?_;simp only [go_sem,simprocAttr,c1]);rw [<- h3];rfl
 ·have hi:=Ea1.1 hi;obtain ⟨x,hx⟩:∃ x,p[i]? = some x:=⟨_,Eaa hi⟩
  have hgx:=Dk hx;have hdx:p.drop i=x :: p.drop (i+1):=by rw [Eax hi];congr 1;rw [Eaa hi] at hx;exact Ea3 hx
  have hok':=hok x (Eae hx);rw [hdx,getT] at h3;have hin:=d_in u x h2 hok';have c1:((i:Int)<(p.length:Int))=True:=eq_true omg;cases hu:inT u x with
  | error er =>
   rw [hu] at hin h3;unfold getR at hin;(refine lws ?_;simp only [go_sem,simprocAttr,c1,hgx,wi1 (i:=i) omg]);(repeat' (first|(apply iteI<;>intro h)|((refine Jqa hin ?_);simp only [go_sem,simprocAttr,wi1 (i:=i) omg])|fail))
   ·rw [<- h3];rfl
   ·have:=M2 hu;omega
  | ok w =>
   rw [hu] at hin h3;unfold getR at hin;have hle:=Q7 hu;(refine lws ?_;simp only [go_sem,simprocAttr,c1,hgx,wi1 (i:=i) omg]);(repeat' (first|((refine Jqa hin ?_);simp only [go_sem,simprocAttr,wi1 (i:=i) omg])|fail));exact ⟨(i+1,w),⟨by simp only;omega,by simp only;omega,h3⟩,by simp only;omega,Jqc⟩
end Go.LX
namespace Go.LX
open Go Go.RowKit Go.Proofs
section
variable {X:Cx} {ro:Option Nat} {c:Code} {Q:Ex->St->Prop}
theorem SWP.at {s:St} (s0:St) (h:SWP X ro c (fun e s'=>e=.normal/\s'.Le s0) s) (hQ:Q .normal s0):SWP X ro c Q s:=fun Γ a w hG hr =>
 wpIn_mono (h Γ a w hG hr) fun e a w hq=>by
  cases e with
  | normal=>obtain ⟨s',⟨_,h1⟩,h2⟩:=hq;exact ⟨s0,hQ,h1 Γ a w h2⟩
  | exit id=>obtain ⟨s',⟨h1,_⟩,h2⟩:=hq;cases h1
  | ret=>obtain ⟨s',⟨h1,_⟩,h2⟩:=hq;cases h1
  | goto l=>exact hq.elim
  | panic c=>exact hq.elim
  | outgrown=>exact hq.elim
theorem J10 {s:St} {d:Nat} {T:TypeId} {es:List (List PV)} (hd:Am d s.regs=some (.row T 1 es)) (h0:0<es.length)
  (h:∀ k,SWP X ro c Q { s with regs:=Bs d (.lrow T 1 true (es.map (List.map L.p) ++ List.replicate k [L.junk])) s.regs }):SWP X ro c Q s:=by
 intro Γ a w hG ⟨ms,hdef,β,Im,hx⟩;have hmem:=Ax hd;rcases hx.fit.regs d _ hmem with ⟨_,rfl⟩ | ⟨loc,cur,hβ,hlz,hbk,hcl,hle,hml,hel,hcell⟩
 ·simp at h0
 refine h (loc.tot - es.length) Γ a w hG ⟨ms,hdef,β,Im,hx.store hmem hβ rfl rfl rfl rfl (fun _ _=>rfl) (.inr ?_)⟩;have hll:(es.map (List.map L.p) ++ List.replicate (loc.tot - es.length) [L.junk]).length=loc.tot:=by simp;omega
 refine ⟨loc,cur,hβ,hlz,hbk,hcl,by rw [hll];exact Eai _,fun _=>hll,hml,fun e he=>?_,fun i e j l hi hj=>?_⟩
 ·rcases Eau.1 he with he | he
  ·obtain ⟨q,hq,rfl⟩:=Eap.1 he;rw [Ea9];exact (hel q hq).1
  ·rw [List.eq_of_mem_replicate he];rfl
 ·by_cases hlt:i<es.length
  ·rw [Eaq (by simpa using hlt),Eam] at hi;obtain ⟨q,hq,rfl⟩:=Eak.1 hi;rw [Eam] at hj;obtain ⟨p,hp,rfl⟩:=Eak.1 hj;obtain ⟨v,hv,hr⟩:=hcell i q j p hq hp;exact ⟨v,hv,hr,.inl ((hel q (Eae hq)).2 p (Eae hp))⟩
  ·rw [Ean (by simpa using hlt)] at hi;simp only [Ea9] at hi;obtain ⟨hi1,rfl⟩:=Eab.1 hi;simp only [Ebz] at hi1;simp only [List.getElem_replicate] at hj;have hj0:j=0:=by have:=(Eab.1 hj).1;simp at this;exact this
   subst hj0;simp at hj;subst hj;have hc:i * 1+0<cur.length:=by rw [hcl];omega
   exact ⟨_,Eaa hc,trivial,.inr rfl⟩
theorem Jyo {s:St} {d:Nat} {T:TypeId} {f:Bool} {ls:List (List L)} {es:List (List PV)} (n:Nat) (hd:Am d s.regs=some (.lrow T 1 f ls)) (hp:Cb (ls.take n)=some es):s.Le { s with regs:=Bs d (.row T 1 es) s.regs }:=by
 rintro Γ a w ⟨ms,hdef,β,Im,hx⟩;have hmem:=Ax hd;obtain ⟨pl,pp⟩:=Dh hp;by_cases hβ:∃ loc,β d=some loc
 ·obtain ⟨loc,hβ⟩:=hβ;refine ⟨ms,hdef,β,Im,hx.store hmem hβ rfl rfl rfl rfl (fun _ _=>rfl) ?_⟩;rcases hx.fit.regs d _ hmem with ⟨hn,rfl⟩ | ⟨loc',cur,hβ',hlz,hbk,hcl,hle,hfu,hml,hel,hcell⟩
  ·rw [hβ] at hn;cases hn
  ·rw [hβ] at hβ';cases hβ';have key:∀ (i:Nat) (q:List PV),es[i]? = some q->∃ e,ls[i]? = some e/\e.length=q.length/\∀ (j:Nat) (p:PV),q[j]? = some p->e[j]? = some (.p p):=by
    intro i q hq;obtain ⟨e,he,ha⟩:=pp i q hq;have he':ls[i]? = some e:=by
     rw [Eao] at he;split at he
     ·exact he
     ·cases he
    obtain ⟨al,ag⟩:=Bh ha;refine ⟨e,he',al,fun j p hj=>?_⟩;obtain ⟨l,hl'⟩:=getElem?_of_length al hj;have h1:=ag j l p hl' hj;cases l <;> simp [L.pure?] at h1;subst h1;exact hl'
   refine .inr ⟨loc,cur,hβ,hlz,hbk,hcl,by rw [<- pl,Eaw];omega,hml,fun q hq=>?_,fun i q j p hi hj=>?_⟩
   ·obtain ⟨i,hi,rfl⟩:=Ea6 hq;obtain ⟨e,he,h1,h2⟩:=key i _ (Eaa hi);refine ⟨by rw [<- h1];exact hel e (Eae he),fun p hp=>?_⟩;obtain ⟨j,hj,rfl⟩:=Ea6 hp;obtain ⟨v,_,_,hco⟩:=hcell i e j _ he (h2 j _ (Eaa hj));rcases hco with hco | hco
    ·exact hco
    ·cases hco
   ·obtain ⟨e,he,h1,h2⟩:=key i q hi;obtain ⟨v,hv,hr,_⟩:=hcell i e j _ he (h2 j p hj);exact ⟨v,hv,hr⟩
 ·have hn:β d=none:=by
   cases hb:β d with
   | none=>rfl
   | some loc=>exact absurd ⟨loc,hb⟩ hβ
  have hls:ls=[]:=by
   rcases hx.fit.regs d _ hmem with ⟨_,h⟩ | ⟨loc',cur,hβ',_⟩
   ·exact h
   ·rw [hn] at hβ';cases hβ'
  subst hls;have:es=[]:=Eal (by simpa using pl.symm);subst this;have hf:=hx.fit;refine ⟨ms,hdef,β,Im,{ hx with fit:={ hf with regs:=fun e q hq=>?_,nodup:=by simp only [Kd];exact hf.nodup,live:=fun e q loc hq hl=>?_,apart:=fun e q e' q' l1 l2 hq hq' hne h1 h2=>?_ },regnew:=fun e q loc hq hl=>?_,marks:=fun D hD=>?_ }⟩
  all_goals
   have key:∀ e q,(e,q)∈Bs d (.row T 1 []) s.regs->∃ q',(e,q')∈s.regs:=by
    intro e q hq;rcases Ds hf.nodup hq with ⟨rfl,rfl,q',hq'⟩ | ⟨hne,hm⟩
    ·exact ⟨q',hq'⟩
    ·exact ⟨q,hm⟩
  ·rcases Ds hf.nodup hq with ⟨rfl,rfl,_⟩ | ⟨hne,hm⟩
   ·exact .inl ⟨hn,rfl⟩
   ·exact hf.regs e q hm
  ·obtain ⟨q',hq'⟩:=key e q hq;exact hf.live e q' loc hq' hl
  ·obtain ⟨p1,hp1⟩:=key e q hq;obtain ⟨p2,hp2⟩:=key e' q' hq';exact hf.apart e p1 e' p2 l1 l2 hp1 hp2 hne h1 h2
  ·obtain ⟨q',hq'⟩:=key e q hq;exact hx.regnew e q' loc hq' hl
  ·obtain ⟨m1,m2,m3,m4⟩:=hx.marks D hD;exact ⟨m1,m2,m3,fun e q loc hq hl=>by obtain ⟨q',hq'⟩:=key e q hq;exact m4 e q' loc hq' hl⟩
theorem SWP_truncX {s:St} {d:Nat} {T:TypeId} {f:Bool} {ls:List (List L)} {es:List (List PV)} (n:Nat) (hd:Am d s.regs=some (.lrow T 1 f ls)) (hp:Cb (ls.take n)=some es)
  (h:SWP X ro c Q { s with regs:=Bs d (.row T 1 es) s.regs }):SWP X ro c Q s:=Jqg (Jyo n hd hp) h
theorem Jq:∀ es:List (List PV),Cb (es.map (List.map L.p))=some es
 | []=>rfl
 | e :: es=>by
  have h:∀ e:List PV,Bg L.pure? (e.map L.p)=some e:=by
   intro e
   induction e with
   | nil=>rfl
   | cons p e ih=>simp only [Eat,Bg,L.pure?,ih]
  simp only [Eat,Cb,h,Jq es]
theorem Gd {es:List (List PV)} {r:List (List L)} {n:Nat} (h:n<=es.length):Cb ((es.map (List.map L.p) ++ r).take n)=some (es.take n):=by
 rw [Ebr (by simpa using h),<- Ecq,Jq]
theorem Me {es:List (List PV)} {r:List (List L)} {o n:Nat} (h:o+n<=es.length):Cb (((es.map (List.map L.p) ++ r).drop o).take n)=some ((es.drop o).take n):=by
 rw [List.drop_append_of_le_length (by simp;omega),Ebr (by simp;omega),<- Edg,<- Ecq,Jq]
end
theorem W9 {X:Cx} {f:FuncId} {fn:Func} {tS tR e:TypeId} (hf:X.P.funcs[f]? = some fn) (hname:(fn.name == "runtime.NumGoroutine")=false) (hb:fn.body.isNone=true) (hn:Extern.findNext fn=none)
  (he:Extern.find fn=some (Extern.SlicesOverlaps.overlaps #[tS,tS] #[tR])) (ht:slE X.P tS=some (e,1)) {rs:Regs} {d1 o1 n1 d2 o2 n2:Nat} {T1 T2:TypeId} {es1:List (List PV)} {f2:Bool} {es2:List (List L)}
  (h1:Am d1 rs=some (.row T1 1 es1)) (h2:Am d2 rs=some (.lrow T2 1 f2 es2)) (hne:d1≠d2) (hp1:0<es1.length) (hp2:0<es2.length):Ad X f [.own d1 o1 n1,.own d2 o2 n2] rs (.p (.bool false)):=by
 intro β Im w vs hfit;obtain ⟨v,u,rfl,r1,r2⟩:=fit2 hfit;have m1:=Ax h1;have m2:=Ax h2;obtain ⟨ht0,hcs,h0⟩:=Dw ht;rcases hfit.regs d1 _ m1 with ⟨_,rfl⟩ | ⟨l1,c1,b1,z1,k1,q1,y1,-⟩
 ·simp at hp1
 rcases hfit.regs d2 _ m2 with ⟨_,rfl⟩ | ⟨l2,c2,b2,z2,k2,q2,y2,-⟩
 ·simp at hp2
 rcases r1 with ⟨l1',cap1,a1,b1',_,_,_,rfl⟩ | ⟨hn1,_⟩
 rotate_left
 ·rw [b1] at hn1;cases hn1
 rcases r2 with ⟨l2',cap2,a2,b2',_,_,_,rfl⟩ | ⟨hn2,_⟩
 rotate_left
 ·rw [b2] at hn2;cases hn2
 rw [b1] at b1';cases b1';rw [b2] at b2';cases b2';have hap:=hfit.apart d1 _ d2 _ l1 l2 m1 m2 hne b1 b2;refine ⟨.bool false,?_,PRep.bool _⟩;rw [run_callFunc_extern hf hname hb hn he,
  Lib.run_overlaps_apart w tS tR e ht0 1 (fun w=>Bk (P:=X.P) hcs de w) ⟨l1.blk,a1,none⟩ ⟨l2.blk,a2,none⟩ n1 cap1 n2 cap2 hap T1 T2 c1.length c2.length (by simp [World.shape?,k1]) (by simp [World.shape?,k2]) omg (by simp [World.frozen?,k1]) (by simp [World.frozen?,k1])]
 rfl
theorem Jxz {X:Cx} {f:FuncId} {args:List L} {rs rest:Regs} {l:L} {T:TypeId} {es:List (List PV)} (n:Nat)
  (h:Al X f args rs fun m q=>m=l/\(q=(900,.row T 1 es) :: rest\/∃ b ls,q=(900,.lrow T 1 b ls) :: rest/\Cb (ls.take n)=some es)):Det X f args rs l ((900,.row T 1 es) :: rest):=by
 refine ⟨h.1,fun β Im w vs hg hf=>(h.2 β Im w vs hg hf).mono fun e w' ⟨v,m,rs',β',Im',he,⟨hm,hq⟩,hr,hc⟩=>?_⟩;rcases hq with rfl | ⟨b,ls,rfl,hp⟩
 ·exact ⟨v,m,_,β',Im',he,⟨hm,rfl⟩,hr,hc⟩
 ·refine ⟨v,m,_,β',Im',he,⟨hm,rfl⟩,hr,?_⟩;obtain ⟨pl,pp⟩:=Dh hp;have hf':=hc.fit;have key:∀ d r,(d,r)∈(900,Reg.row T 1 es) :: rest->∃ r',(d,r')∈(900,Reg.lrow T 1 b ls) :: rest:=by
   intro d r hd;rcases Eaj.1 hd with hd | hd
   ·cases hd;exact ⟨_,Eaf⟩
   ·exact ⟨r,Eag _ hd⟩
  have hreg:Ci β' w' Im' 900 (.row T 1 es):=by
   rcases hf'.regs 900 _ Eaf with ⟨hn,rfl⟩ | ⟨loc,cur,hβ,hlz,hbk,hcl,hle,hfu,hml,hel,hcell⟩
   ·refine .inl ⟨hn,Eal (by simpa using pl.symm)⟩
   ·have key:∀ (i:Nat) (q:List PV),es[i]? = some q->∃ e,ls[i]? = some e/\e.length=q.length/\∀ (j:Nat) (p:PV),q[j]? = some p->e[j]? = some (.p p):=by
     intro i q hq;obtain ⟨e,he,ha⟩:=pp i q hq;have he':ls[i]? = some e:=by
      rw [Eao] at he;split at he
      ·exact he
      ·cases he
     obtain ⟨al,ag⟩:=Bh ha;refine ⟨e,he',al,fun j p hj=>?_⟩;obtain ⟨l,hl'⟩:=getElem?_of_length al hj;have h1:=ag j l p hl' hj;cases l <;> simp [L.pure?] at h1;subst h1;exact hl'
    refine .inr ⟨loc,cur,hβ,hlz,hbk,hcl,by rw [<- pl,Eaw];omega,hml,fun q hq=>?_,fun i q j p hi hj=>?_⟩
    ·obtain ⟨i,hi,rfl⟩:=Ea6 hq;obtain ⟨e,he,h1,h2⟩:=key i _ (Eaa hi);refine ⟨by rw [<- h1];exact hel e (Eae he),fun p hp=>?_⟩;obtain ⟨j,hj,rfl⟩:=Ea6 hp;obtain ⟨v,_,_,hco⟩:=hcell i e j _ he (h2 j _ (Eaa hj));rcases hco with hco | hco
     ·exact hco
     ·cases hco
    ·obtain ⟨e,he,h1,h2⟩:=key i q hi;obtain ⟨v,hv,hr,_⟩:=hcell i e j _ he (h2 j p hj);exact ⟨v,hv,hr⟩
  refine { hc with keys:=fun d r hd=>(key d r hd).elim fun r' h'=>hc.keys d r' h',regnew:=fun d r loc hd hl=>(key d r hd).elim fun r' h'=>hc.regnew d r' loc h' hl,fit:={ size:=hf'.size,tmps:=hf'.tmps,im:=hf'.im,regs:=fun d r hd=>?_,nodup:=hf'.nodup,live:=fun d r loc hd hl=>(key d r hd).elim fun r' h'=>hf'.live d r' loc h' hl,apart:=fun d r d' r' l1 l2 hd hd' hne h1 h2=>(key d r hd).elim fun r1 h1'=>(key d' r' hd').elim fun r2 h2'=>hf'.apart d r1 d' r2 l1 l2 h1' h2' hne h1 h2 } };rcases Eaj.1 hd with hd | hd
  ·cases hd;exact hreg
  ·exact hf'.regs d r (Eag _ hd)
theorem Al.sub {X:Cx} {f:FuncId} {args:List L} {rs:Regs} {Post Post':L->Regs->Prop} (h:Al X f args rs Post) (hp:∀ m q,Post m q->∃ q0,q0.Sublist q/\Post' m q0):Al X f args rs Post':=by
 refine ⟨h.1,fun β Im w vs hg hf=>(h.2 β Im w vs hg hf).mono fun e w' ⟨v,m,rs',β',Im',he,hP,hr,hc⟩=>?_⟩;obtain ⟨q0,hs,hP'⟩:=hp m rs' hP;have hf':=hc.fit;have key:∀ d r,(d,r)∈q0->(d,r)∈rs':=fun d r hd=>hs.subset hd
 exact ⟨v,m,q0,β',Im',he,hP',hr,{ hc with keys:=fun d r hd=>hc.keys d r (key d r hd),regnew:=fun d r loc hd hl=>hc.regnew d r loc (key d r hd) hl,fit:={ size:=hf'.size,tmps:=hf'.tmps,im:=hf'.im,regs:=fun d r hd=>hf'.regs d r (key d r hd),nodup:=hf'.nodup.sublist (hs.map _),live:=fun d r loc hd hl=>hf'.live d r loc (key d r hd) hl,apart:=fun d r d' r' l1 l2 hd hd' hne h1 h2=>hf'.apart d r d' r' l1 l2 (key d r hd) (key d' r' hd') hne h1 h2 } }⟩
theorem Kj {f:L->L} (hp:∀ p,f (.p p)=.p p) (hj:f .junk=.junk) (es:List (List PV)) (k:Nat):List.map (fun e=>List.map f e) (es.map (List.map L.p) ++ List.replicate k [L.junk])=es.map (List.map L.p) ++ List.replicate k [L.junk]:=by
 rw [Ebu,Ebs,List.map_replicate];have h1:(fun e=>List.map f e) ∘ List.map L.p=List.map L.p:=by
  funext e;simp only [Function.comp,Ebs];congr 1;funext p;exact hp p
 rw [h1];simp [hj]
theorem Z8 {es:List (List PV)} {i k:Nat} (hi:i<es.length) (hk:k≠0) :
  (es.map (List.map L.p) ++ List.replicate k [L.junk]).take (i+1) ++ (es.drop i).map (List.map L.p) ++ (es.map (List.map L.p) ++ List.replicate k [L.junk]).drop (i+1+(es.length - i))=(es.take (i+1) ++ es.drop i).map (List.map L.p) ++ List.replicate (k - 1) [L.junk]:=by
 rw [Ebr (by simp;omega),show i+1+(es.length - i)=(es.map (List.map L.p)).length+1 by simp;omega,List.drop_append,Ear (show (es.map (List.map L.p)).length<=(es.map (List.map L.p)).length+1 by omega),List.nil_append,List.drop_replicate,Ebu,Ecq];congr 2;simp
theorem Xp {es:List (List PV)} {i k:Nat} {q:List PV} (hi:i<es.length) :
  ((es.take (i+1) ++ es.drop i).map (List.map L.p) ++ List.replicate k [L.junk]).take i ++ [q.map L.p] ++ ((es.take (i+1) ++ es.drop i).map (List.map L.p) ++ List.replicate k [L.junk]).drop (i+1)=(es.take i ++ [q] ++ es.drop i).map (List.map L.p) ++ List.replicate k [L.junk]:=by
 rw [Ebr (by simp;omega),List.drop_append_of_le_length (by simp;omega),<- Ecq,<- Edg,Ebr (by simp;omega),List.drop_append_of_le_length (by simp;omega),List.take_take,Ear (show (es.take (i+1)).length<=i+1 by simp;omega),Ec8 omg];simp
def isSl:Option TypeDesc->Prop
 | some (.slice _)=>True
 | _=>False
theorem Hi {e:TypeId}:isSl (some (.slice e))=True:=(rfl)
def capR (off:Nat) (K:L->Prop):Option Reg->Prop
 | some (.lrow _ _ true es)=>K (.p (.int .i64 (es.length - off:Nat)))
 | _=>False
def capV (regs:Regs) (K:L->Prop):L->Prop
 | .p .snil=>K (.p (.int .i64 0))
 | .own d off _=>capR off K (Am d regs)
 | _=>False
theorem K9 {P:Program} {r:Regs} {t:List L} {o:Operand} {ty:TypeId} {K:L->Prop}:lqvK P r ⟨t,r⟩ (.call { callee:=.builtin .cap,args:=#[o],argTypes:=#[ty] }) K=(isSl (P.underlying ty)/\capV r K ((St.mk t r).get o)):=by
 have h1:(∃ e,P.underlying ty=some (.slice e)) ↔ isSl (P.underlying ty):=by
  unfold isSl;split
  ·rename_i e h;exact ⟨fun _=>trivial,fun _=>⟨e,h⟩⟩
  ·rename_i h;exact ⟨fun ⟨k,hk⟩=>h k hk,fun h=>h.elim⟩
 unfold lqvK lqv;simp only [h1];apply pe;constructor
 ·rintro ⟨l,⟨h,h'⟩,hK⟩;refine ⟨h,?_⟩;split at h'
  ·rename_i hg;rw [hg];subst h';exact hK
  ·rename_i d off n hg;rw [hg];show capR off K (Am d r);split at h'
   ·rename_i T sz es hr;rw [hr];subst h';exact hK
   ·exact h'.elim
  ·exact h'.elim
 ·rintro ⟨h,hK⟩;unfold capV at hK;split at hK
  ·rename_i hg;rw [hg];exact ⟨_,⟨h,rfl⟩,hK⟩
  ·rename_i d off n hg;rw [hg];unfold capR at hK;split at hK
   ·rename_i T sz es hr;simp only [hr];exact ⟨_,⟨h,rfl⟩,hK⟩
   ·exact hK.elim
  ·exact hK.elim
theorem Hf {r:Regs} {K:L->Prop} {d off n:Nat}:capV r K (.own d off n)=capR off K (Am d r):=(rfl)
theorem Kc {off:Nat} {K:L->Prop} {T sz:Nat} {es:List (List L)}:capR off K (some (.lrow T sz true es))=K (.p (.int .i64 (es.length - off:Nat))):=(rfl)
attribute [local irreducible] Al Bi SWP
def Cq (x:List UInt8):List (List UInt8)->Nat
 | []=>0
 | s :: l=>if Op.bytesLess s x=true then Cq x l+1 else 0
theorem Qt (x:List UInt8):∀ l,Cq x l<=l.length
 | []=>Eai _
 | s :: l=>by have:=Qt x l;simp only [Cq,List.length_cons];split <;> omega
theorem Zr {x:List UInt8}:∀ {l:List (List UInt8)} {k:Nat} {s:List UInt8},k<Cq x l->l[k]? = some s->Op.bytesLess s x=true
 | [],_,_,h,_=>by simp [Cq] at h
 | t :: l,k,s,h,hk=>by
  simp only [Cq] at h;split at h
  ·cases k with
   | zero=>simp at hk;subst hk;assumption
   | succ k=>exact Zr (l:=l) (k:=k) omg (by simpa using hk)
  ·omega
theorem Wz {x:List UInt8}:∀ {l:List (List UInt8)} {s:List UInt8},l[Cq x l]? = some s->Op.bytesLess s x=false
 | [],_,h=>by simp at h
 | t :: l,s,h=>by
  simp only [Cq] at h;split at h
  ·exact Wz (l:=l) (by simpa using h)
  ·rename_i h1;simp only [List.getElem?_cons_zero,Option.some.injEq] at h;subst h;exact Bool.not_eq_true _ ▸ h1
def Mono (x:List UInt8) (l:List (List UInt8)):Prop:=∀ (i j:Nat) (s t:List UInt8),i<=j->l[i]? = some s->l[j]? = some t->Op.bytesLess t x=true->Op.bytesLess s x=true
theorem Jel {x:List UInt8} {l:List (List UInt8)} (hmo:Mono x l) {k:Nat} {s:List UInt8} (hk:l[k]? = some s):(Op.bytesLess s x=true ↔ k<Cq x l):=by
 constructor
 ·intro h;by_cases hlt:k<Cq x l
  ·exact hlt
  ·have hkl:=(Eab.1 hk).1;obtain ⟨t,ht⟩:∃ t,l[Cq x l]? = some t:=⟨_,Eaa (show Cq x l<l.length from Nat.lt_of_le_of_lt (Nat.le_of_not_lt hlt) hkl)⟩
   have:=hmo (Cq x l) k t s omg ht hk h;rw [Wz ht] at this;cases this
 ·exact fun h=>Zr h hk
def strL (l:List (List UInt8)):List (List PV):=l.map fun s=>[.str s]
theorem Jum (l:List (List UInt8)):(strL l).length=l.length:=by simp [strL]
def Mo (x:List UInt8) (l:List (List UInt8)):Bool:=match l[Cq x l]? with
 | some s=>s == x
 | none=>false
theorem half {i j:Nat} (h:i+j<=4000000000000):IntKind.i64.wrap ((IntKind.u64.wrap (IntKind.i64.wrap ((i:Int)+(j:Int)))).fdiv (2 ^ min 1 (B0 .u64)))=(((i+j) / 2:Nat):Int):=by
 have e:(((i+j:Nat):Int)).fdiv (2 ^ min 1 (B0 .u64))=(((i+j) / 2:Nat):Int):=by
  rw [show min 1 (B0 .u64)=1 by decide,Ecj _ de];simp
 rw [Aa (n:=(i:Int)+j) omg omg,show ((i:Int)+(j:Int))=((i+j:Nat):Int) by omega,Mf (n:=((i+j:Nat):Int)) omg omg];rw [e,Aa omg omg]
theorem Jdr (a:List UInt8):Det cx 155 [.p (.str a)] [] (.p (.bool false)) []:=by
 (refine bgo Tryz.func155 ?_;simp only [go_sem,simprocAttr])
theorem Mt (a:List UInt8):Det cx 179 [.p (.str a)] [] (.p (.bool false)) []:=by
 (refine bgo Tryz.func179 ?_;simp only [go_sem,simprocAttr])
theorem Jh8 (a b:List UInt8):Det cx 178 [.p (.str a),.p (.str b)] [] (.p (.bool (Op.bytesLess a b))) []:=by
 (refine bgo Tryz.func178 ?_;simp only [go_sem,simprocAttr]);(repeat' (first|((refine Jqa (Jdr a) ?_);simp only [go_sem,simprocAttr])|fail))
theorem Jmd (x:List UInt8) (l:List (List UInt8)) (hmo:Mono x l) (hn:l.length<=1500000000000):Det cx 142 [.own 1000 0 l.length,.p (.str x)] [(1000,.row 9 1 (strL l))] (.tup [.int .i64 (Cq x l),.bool (Mo x l)]) [(1000,.row 9 1 (strL l))]:=by
 have hpl:=Qt x l;(refine bgo Tryz.func142 ?_;simp only [go_sem,simprocAttr]);refine SWP.loop (fun p:Nat×Nat=>⟨Ba 54 [(0,.own 1000 0 l.length),(1,.p (.str x)),(5,.p (.bool false)),(6,.p (.int .i64 l.length)),(7,.p (.int .i64 p.1)),(8,.p (.int .i64 p.2))],[(1000,.row 9 1 (strL l))]⟩) (fun p=>p.1<=Cq x l/\Cq x l<=p.2/\p.2<=l.length) (fun p=>p.2 - p.1) (0,l.length) Jqc ⟨Eav _,hpl,Eai _⟩ ?_;rintro ⟨i,j⟩ ⟨h1,h2,h3⟩;simp only at h1 h2 h3;by_cases hi:i<j
 ·have hh:=half (i:=i) (j:=j) omg;obtain ⟨s,hs⟩:∃ s,l[(i+j) / 2]? = some s:=⟨_,Eaa (show (i+j) / 2<l.length by omega)⟩
  have hg:(strL l)[(i+j) / 2]? = some [.str s]:=by simp [strL,hs]
  have hiff:=Jel hmo hs;have c1:((i:Int)<(j:Int))=True:=eq_true omg;have c2:=c1;(refine lws ?_;simp only [go_sem,simprocAttr,hh,hg,c1]);(repeat' (first|(apply iteI<;>intro h)|refine Jqj ?_|((refine Jqa (Jh8 s x) ?_);simp only [go_sem,simprocAttr])|fail))
  ·have hlt:=hiff.1 (by assumption);exact ⟨((i+j) / 2+1,j),⟨by simp only;omega,by simp only;omega,by simp only;omega⟩,by simp only;omega,Jqc⟩
  ·have hlt:¬ (i+j) / 2<Cq x l:=fun h=>by have:=hiff.2 h;simp_all
   exact ⟨(i,(i+j) / 2),⟨by simp only;omega,by simp only;omega,by simp only;omega⟩,by simp only;omega,Jqc⟩
 ·have c1:((i:Int)<(j:Int))=False:=eq_false omg;have hij:i=Cq x l:=by omega
  subst hij;have hh:=c1;by_cases hl:Cq x l<l.length
  ·have c2:((Cq x l:Int)<(l.length:Int))=True:=eq_true omg;obtain ⟨s,hs⟩:∃ s,l[Cq x l]? = some s:=⟨_,Eaa hl⟩
   have hg:(strL l)[Cq x l]? = some [.str s]:=by simp [strL,hs]
   have hf:Mo x l=(s == x):=by unfold Mo;rw [hs]
   (refine lws ?_;simp only [go_sem,simprocAttr,hh,hg,c2]);(repeat' (first|(apply iteI<;>intro h)|((refine Jqa (Mt s) ?_);simp only [go_sem,simprocAttr])|fail))
   all_goals simp [hf, *]
  ·have hg:=c1;have c2:((Cq x l:Int)<(l.length:Int))=False:=eq_false omg;have hf:Mo x l=false:=by unfold Mo;rw [Ec1 omg]
   (refine lws ?_;simp only [go_sem,simprocAttr,hh,c2])
   all_goals exact hf.symm
theorem Jbo {rs:Regs} {d1 o1 n1 d2 o2 n2:Nat} {T1 T2:TypeId} {es1:List (List PV)} {f2:Bool} {es2:List (List L)} (h1:Am d1 rs=some (.row T1 1 es1)) (h2:Am d2 rs=some (.lrow T2 1 f2 es2)) (hne:d1≠d2) (hp1:0<es1.length) (hp2:0<es2.length) :
  Ad cx 180 [.own d1 o1 n1,.own d2 o2 n2] rs (.p (.bool false)) :=
 W9 (X:=cx) Tryz.func180 kr kr kr (tS:=61) (tR:=4) (e:=9) kr f_s61 h1 h2 hne hp1 hp2
theorem Yh (es:List (List PV)) (n i:Nat) (x:List UInt8) (h:es.length=n) (hi:i<n) (hn:n<=1500000000000) (h1:∀ q∈es,q.length=1):Det cx 143 [.own 1000 0 n,.p (.int .i64 i),.own 1001 0 1] [(1001,.row 9 1 [[.str x]]),(1000,.row 9 1 es)] (.own 900 0 (n+1)) [(900,.row 9 1 (es.take i ++ [[.str x]] ++ es.drop i)),(1001,.row 9 1 [[.str x]])]:=by
 refine Jxz (n+1) ?_;refine Al.sub (Post:=fun m q=>m=.own 900 0 (n+1)/\((∃ r,q=[(900,.row 9 1 (es.take i ++ [[.str x]] ++ es.drop i)),(1001,.row 9 1 [[.str x]]),(1000,r)])\/∃ b ls,q=[(900,.lrow 9 1 b ls),(1001,.row 9 1 [[.str x]])]/\Cb (ls.take (n+1))=some (es.take i ++ [[.str x]] ++ es.drop i))) ?_ (by
  rintro m q ⟨rfl,⟨r,rfl⟩ | ⟨b,ls,rfl,hp⟩⟩
  ·exact ⟨_,((List.nil_sublist _).cons_cons _).cons_cons _,rfl,.inl rfl⟩
  ·exact ⟨_,List.Sublist.refl _,rfl,.inr ⟨b,ls,rfl,hp⟩⟩)
 refine Jua (X:=cx) true [(40,900)] sm Tryz.func143 kr rfl (by simp only [List.length_cons,List.length_nil,Tryz.ntmps143];decide) sm ?_;refine J10 (d:=1000) (T:=9) (es:=es) rfl omg fun k=>?_
 generalize hls:es.map (List.map L.p) ++ List.replicate k [L.junk]=ls;have hll:ls.length=n+k:=by rw [<- hls];simp [h]
 have c1:((i:Int)=(n:Int))=False:=eq_false omg;have hp0:(0<ls.length)=True:=eq_true omg;have hr1:Cb (ls.take i)=some (es.take i):=by rw [<- hls];exact Gd omg
 have w1:IntKind.i64.wrap ((n:Int)+((1:Nat):Int))=((n+1:Nat):Int):=by rw [Aa omg omg];omega
 have w3:IntKind.i64.wrap ((i:Int)+((1:Nat):Int))=((i+1:Nat):Int):=by rw [Aa omg omg];omega
 have c4:(((1:Nat):Int)=0)=False:=by simp
 have c7:((1:Nat)=0)=False:=by simp
 have c6:(n - i=0)=False:=eq_false omg;have e2:List.take (n+1 - i) [[PV.str x]]=[[PV.str x]]:=Ead (by simp;omega);have e3:n+1 - (i+1)=n - i:=by omega
 have e5:(es.drop i).length=n - i:=by simp [h]
 have hr2:Cb ((ls.drop i).take (n - i))=some (es.drop i):=by rw [<- hls,Me omg,Ead (by simp;omega)]
 by_cases hk:k=0
 ·subst hk;have c2:((ls.length:Int)<((n+1:Nat):Int))=True:=eq_true omg;have c3:((n:Int)<((n+1:Nat):Int))=True:=eq_true omg;have w2:IntKind.i64.wrap (((n+1:Nat):Int) - (i:Int))=((n+1 - i:Nat):Int):=by rw [Aa omg omg];omega
  simp only [Nat.add_zero] at hll;have e1:i+(n+1 - i)=n+1:=by omega
  have hT:(es.take i ++ List.replicate (n+1 - i) [PV.str []]).take i=es.take i:=by rw [Ebr (by simp;omega),List.take_take,Nat.min_self]
  have hD:(es.take i ++ List.replicate (n+1 - i) [PV.str []]).drop (i+1)=List.replicate (n - i) [PV.str []]:=by
   rw [List.drop_append,Ear (by simp;omega),List.nil_append,List.drop_replicate];congr 1;simp;omega
  have hF:List.map (fun e=>List.map (L.forget 40) e) ls=ls:=by rw [<- hls];exact Kj (fun _=>rfl) rfl _ _
  have c5:(i+(n - i)<=n)=True:=eq_true omg;have e4:min (n - i) (n - i)=n - i:=Nat.min_self _;have hB:(es.take i ++ [[PV.str x]] ++ List.replicate (n - i) [PV.str []]).take (i+1) ++ es.drop i ++ (es.take i ++ [[PV.str x]] ++ List.replicate (n - i) [PV.str []]).drop (i+1+(n - i))=es.take i ++ [[PV.str x]] ++ es.drop i:=by
   have l1:(es.take i ++ [[PV.str x]]).length=i+1:=by simp;omega
   rw [Ebr omg,Ead (l:=es.take i ++ [[PV.str x]]) omg,Ear (show (es.take i ++ [[PV.str x]] ++ List.replicate (n - i) [PV.str []]).length<=i+1+(n - i) by simp;omega),Eaz]
  have hC:=hB;simp only [Tryz.ntmps143,Tryz.results143,go_sem,Nat.reduceLT,Nat.reduceLeDiff,Nat.reduceEqDiff,Nat.reduceAdd,Nat.reduceSub,Nat.reduceMul,Nat.reduceBEq,Int.reduceToNat,Int.reduceLT,Int.reduceLE,Int.reduceEq,Int.reduceAdd,Int.reduceSub,Int.reduceNeg,↓reduceIte,reduceCtorEq,K9,Hf,Kc,Hi,hll,c1,c2,c3,c4,c5,c6,c7,w1,w2,w3,hr1,hr2,hp0,if_true,if_false,Nat.sub_zero,Ebz,e1,e2,e3,e4,e5,hT,hD,hF,hB,hC];(refine lws ?_;simp only [go_sem,Nat.reduceLT,Nat.reduceLeDiff,Nat.reduceEqDiff,↓reduceIte,reduceCtorEq,K9,Hf,Kc,Hi,hll,c1,c3,c4,c7,w1,w2,hr1,Nat.sub_zero,Ebz,e1,e2,hT,hD,hF]);(repeat' (first|(refine And.intro (by first | omega | (simp;done)|(simp;omega)|(intro q hq;exact h1 q (Ea7 hq))|(intro q hq;exact h1 q hq)|(intro q hq;simp at hq;subst hq;rfl)) ?_)|fail));(refine Gi 8 hm kr kr ?_;simp only [go_sem,Nat.reduceLT,Nat.reduceEqDiff,Nat.reduceAdd,↓reduceIte,reduceCtorEq,hll,c5,c6,w3,hr2,e3,e4,e5,hB]);(repeat' (first|(refine And.intro (by first | omega | (simp;done)|(simp;omega)|(intro q hq;exact h1 q (Ea7 hq))|(intro q hq;exact h1 q hq)|(intro q hq;simp at hq;subst hq;rfl)) ?_)|fail));exact .inl ⟨_,rfl⟩
 ·have c2:((ls.length:Int)<((n+1:Nat):Int))=False:=eq_false omg;have c3:(((n+k:Nat):Int)<((n+1:Nat):Int))=False:=eq_false omg;have w2:=c4;have e1:=c4;have hT:=c4;have hD:=c4;have hF:List.map (fun e=>List.map (L.map (Fb 1000 40)) e) ls=ls:=by rw [<- hls];exact Kj (fun _=>rfl) rfl _ _
  have c5:(i+(n+1 - i)<=n+k)=True:=eq_true omg;have e4:min (n+1 - i) (n - i)=n - i:=by omega
  have hB:ls.take (i+1) ++ (es.drop i).map (List.map L.p) ++ ls.drop (i+1+(n - i))=(es.take (i+1) ++ es.drop i).map (List.map L.p) ++ List.replicate (k - 1) [L.junk]:=by
   have:=Z8 (es:=es) (i:=i) (k:=k) omg hk;rw [hls,h] at this;exact this
  have hC:((es.take (i+1) ++ es.drop i).map (List.map L.p) ++ List.replicate (k - 1) [L.junk]).take i ++ [[L.p (.str x)]] ++ ((es.take (i+1) ++ es.drop i).map (List.map L.p) ++ List.replicate (k - 1) [L.junk]).drop (i+1)=(es.take i ++ [[PV.str x]] ++ es.drop i).map (List.map L.p) ++ List.replicate (k - 1) [L.junk]:=Xp (q:=[PV.str x]) omg;simp only [Tryz.ntmps143,Tryz.results143,go_sem,Nat.reduceLT,Nat.reduceLeDiff,Nat.reduceEqDiff,Nat.reduceAdd,Nat.reduceSub,Nat.reduceMul,Nat.reduceBEq,Int.reduceToNat,Int.reduceLT,Int.reduceLE,Int.reduceEq,Int.reduceAdd,Int.reduceSub,Int.reduceNeg,↓reduceIte,reduceCtorEq,K9,Hf,Kc,Hi,hll,c1,c2,c3,c4,c5,c6,c7,w1,w2,w3,hr1,hr2,hp0,if_true,if_false,Nat.sub_zero,Ebz,e1,e2,e3,e4,e5,hT,hD,hF,hB,hC];(refine lws ?_;simp only [go_sem,Nat.reduceLT,Nat.reduceEqDiff,↓reduceIte,reduceCtorEq,K9,Hf,Kc,Hi,hll,c1,c3,c4,w1,w3,Nat.sub_zero,e3]);(repeat' (first|(refine And.intro (by first | omega | (simp;done)|(simp;omega)|(intro q hq;exact h1 q (Ea7 hq))|(intro q hq;exact h1 q hq)|(intro q hq;simp at hq;subst hq;rfl)) ?_)|fail));refine Jyr (l:=.p (.bool false)) ?_ ?_
  ·exact Jbo rfl rfl de sm omg
  simp only [go_sem,Nat.reduceLT,↓reduceIte];refine Jqg (B1 [(1000,40)] _ sm) ?_;simp only [go_sem,Nat.reduceEqDiff,↓reduceIte,hF];(refine Gi 8 hm kr kr ?_;simp only [go_sem,Nat.reduceLT,Nat.reduceLeDiff,Nat.reduceEqDiff,Nat.reduceAdd,↓reduceIte,reduceCtorEq,hll,c5,c6,c7,w3,hr2,e2,e3,e4,e5,hB,hC]);(repeat' (first|(refine And.intro (by first | omega | (simp;done)|(simp;omega)|(intro q hq;exact h1 q (Ea7 hq))|(intro q hq;exact h1 q hq)|(intro q hq;simp at hq;subst hq;rfl)) ?_)|fail));rw [Kj (fun _=>rfl) rfl];exact .inr ⟨_,_,rfl,by rw [Gd (by simp;omega),Ead (by simp;omega)]⟩
theorem Jod {rs:Regs} {d1 o1 n1 d2 o2 n2:Nat} {T1 T2:TypeId} {es1:List (List PV)} {f2:Bool} {es2:List (List L)} (h1:Am d1 rs=some (.row T1 1 es1)) (h2:Am d2 rs=some (.lrow T2 1 f2 es2)) (hne:d1≠d2) (hp1:0<es1.length) (hp2:0<es2.length) :
  Ad cx 182 [.own d1 o1 n1,.own d2 o2 n2] rs (.p (.bool false)) :=
 W9 (X:=cx) Tryz.func182 kr kr kr (tS:=53) (tR:=4) (e:=25) kr f_s53 h1 h2 hne hp1 hp2
theorem Jba (es:List (List PV)) (n i:Nat) (x:PV) (hx:x.scalar=true) (h:es.length=n) (hi:i<n) (hn:n<=1500000000000) (h1:∀ q∈es,q.length=1):Det cx 144 [.own 1000 0 n,.p (.int .i64 i),.own 1001 0 1] [(1001,.row 25 1 [[x]]),(1000,.row 25 1 es)] (.own 900 0 (n+1)) [(900,.row 25 1 (es.take i ++ [[x]] ++ es.drop i)),(1001,.row 25 1 [[x]])]:=by
 refine Jxz (n+1) ?_;refine Al.sub (Post:=fun m q=>m=.own 900 0 (n+1)/\((∃ r,q=[(900,.row 25 1 (es.take i ++ [[x]] ++ es.drop i)),(1001,.row 25 1 [[x]]),(1000,r)])\/∃ b ls,q=[(900,.lrow 25 1 b ls),(1001,.row 25 1 [[x]])]/\Cb (ls.take (n+1))=some (es.take i ++ [[x]] ++ es.drop i))) ?_ (by
  rintro m q ⟨rfl,⟨r,rfl⟩ | ⟨b,ls,rfl,hp⟩⟩
  ·exact ⟨_,((List.nil_sublist _).cons_cons _).cons_cons _,rfl,.inl rfl⟩
  ·exact ⟨_,List.Sublist.refl _,rfl,.inr ⟨b,ls,rfl,hp⟩⟩)
 refine Jua (X:=cx) true [(40,900)] sm Tryz.func144 kr rfl (by simp only [List.length_cons,List.length_nil,Tryz.ntmps144];decide) sm ?_;refine J10 (d:=1000) (T:=25) (es:=es) rfl omg fun k=>?_
 generalize hls:es.map (List.map L.p) ++ List.replicate k [L.junk]=ls;have hll:ls.length=n+k:=by rw [<- hls];simp [h]
 have c1:((i:Int)=(n:Int))=False:=eq_false omg;have hp0:(0<ls.length)=True:=eq_true omg;have hr1:Cb (ls.take i)=some (es.take i):=by rw [<- hls];exact Gd omg
 have w1:IntKind.i64.wrap ((n:Int)+((1:Nat):Int))=((n+1:Nat):Int):=by rw [Aa omg omg];omega
 have w3:IntKind.i64.wrap ((i:Int)+((1:Nat):Int))=((i+1:Nat):Int):=by rw [Aa omg omg];omega
 have c4:(((1:Nat):Int)=0)=False:=by simp
 have c7:((1:Nat)=0)=False:=by simp
 have c6:(n - i=0)=False:=eq_false omg;have e2:List.take (n+1 - i) [[x]]=[[x]]:=Ead (by simp;omega);have e3:n+1 - (i+1)=n - i:=by omega
 have e5:(es.drop i).length=n - i:=by simp [h]
 have hr2:Cb ((ls.drop i).take (n - i))=some (es.drop i):=by rw [<- hls,Me omg,Ead (by simp;omega)]
 by_cases hk:k=0
 ·subst hk;have c2:((ls.length:Int)<((n+1:Nat):Int))=True:=eq_true omg;have c3:((n:Int)<((n+1:Nat):Int))=True:=eq_true omg;have w2:IntKind.i64.wrap (((n+1:Nat):Int) - (i:Int))=((n+1 - i:Nat):Int):=by rw [Aa omg omg];omega
  simp only [Nat.add_zero] at hll;have e1:i+(n+1 - i)=n+1:=by omega
  have hT:(es.take i ++ List.replicate (n+1 - i) [PV.snil]).take i=es.take i:=by rw [Ebr (by simp;omega),List.take_take,Nat.min_self]
  have hD:(es.take i ++ List.replicate (n+1 - i) [PV.snil]).drop (i+1)=List.replicate (n - i) [PV.snil]:=by
   rw [List.drop_append,Ear (by simp;omega),List.nil_append,List.drop_replicate];congr 1;simp;omega
  have hF:List.map (fun e=>List.map (L.forget 40) e) ls=ls:=by rw [<- hls];exact Kj (fun _=>rfl) rfl _ _
  have c5:(i+(n - i)<=n)=True:=eq_true omg;have e4:min (n - i) (n - i)=n - i:=Nat.min_self _;have hB:(es.take i ++ [[x]] ++ List.replicate (n - i) [PV.snil]).take (i+1) ++ es.drop i ++ (es.take i ++ [[x]] ++ List.replicate (n - i) [PV.snil]).drop (i+1+(n - i))=es.take i ++ [[x]] ++ es.drop i:=by
   have l1:(es.take i ++ [[x]]).length=i+1:=by simp;omega
   rw [Ebr omg,Ead (l:=es.take i ++ [[x]]) omg,Ear (show (es.take i ++ [[x]] ++ List.replicate (n - i) [PV.snil]).length<=i+1+(n - i) by simp;omega),Eaz]
  have hC:=hB;simp only [Tryz.ntmps144,Tryz.results144,go_sem,Nat.reduceLT,Nat.reduceLeDiff,Nat.reduceEqDiff,Nat.reduceAdd,Nat.reduceSub,Nat.reduceMul,Nat.reduceBEq,Int.reduceToNat,Int.reduceLT,Int.reduceLE,Int.reduceEq,Int.reduceAdd,Int.reduceSub,Int.reduceNeg,↓reduceIte,reduceCtorEq,K9,Hf,Kc,Hi,hll,c1,c2,c3,c4,c5,c6,c7,w1,w2,w3,hr1,hr2,hp0,if_true,if_false,Nat.sub_zero,Ebz,e1,e2,e3,e4,e5,hT,hD,hF,hB,hC];(refine lws ?_;simp only [go_sem,Nat.reduceLT,Nat.reduceLeDiff,Nat.reduceEqDiff,↓reduceIte,reduceCtorEq,K9,Hf,Kc,Hi,hll,c1,c3,c4,c7,w1,w2,hr1,Nat.sub_zero,Ebz,e1,e2,hT,hD,hF]);(repeat' (first|(refine And.intro (by first | omega | (simp;done)|(simp;omega)|(intro q hq;exact h1 q (Ea7 hq))|(intro q hq;exact h1 q hq)|(intro q hq;simp at hq;subst hq;rfl)) ?_)|fail));(refine Gi 8 hm kr kr ?_;simp only [go_sem,Nat.reduceLT,Nat.reduceEqDiff,Nat.reduceAdd,↓reduceIte,reduceCtorEq,hll,c5,c6,w3,hr2,e3,e4,e5,hB]);(repeat' (first|(refine And.intro (by first | omega | (simp;done)|(simp;omega)|(intro q hq;exact h1 q (Ea7 hq))|(intro q hq;exact h1 q hq)|(intro q hq;simp at hq;subst hq;rfl)) ?_)|fail));exact .inl ⟨_,rfl⟩
 ·have c2:((ls.length:Int)<((n+1:Nat):Int))=False:=eq_false omg;have c3:(((n+k:Nat):Int)<((n+1:Nat):Int))=False:=eq_false omg;have w2:=c4;have e1:=c4;have hT:=c4;have hD:=c4;have hF:List.map (fun e=>List.map (L.map (Fb 1000 40)) e) ls=ls:=by rw [<- hls];exact Kj (fun _=>rfl) rfl _ _
  have c5:(i+(n+1 - i)<=n+k)=True:=eq_true omg;have e4:min (n+1 - i) (n - i)=n - i:=by omega
  have hB:ls.take (i+1) ++ (es.drop i).map (List.map L.p) ++ ls.drop (i+1+(n - i))=(es.take (i+1) ++ es.drop i).map (List.map L.p) ++ List.replicate (k - 1) [L.junk]:=by
   have:=Z8 (es:=es) (i:=i) (k:=k) omg hk;rw [hls,h] at this;exact this
  have hC:((es.take (i+1) ++ es.drop i).map (List.map L.p) ++ List.replicate (k - 1) [L.junk]).take i ++ [[L.p x]] ++ ((es.take (i+1) ++ es.drop i).map (List.map L.p) ++ List.replicate (k - 1) [L.junk]).drop (i+1)=(es.take i ++ [[x]] ++ es.drop i).map (List.map L.p) ++ List.replicate (k - 1) [L.junk]:=Xp (q:=[x]) omg;simp only [Tryz.ntmps144,Tryz.results144,go_sem,Nat.reduceLT,Nat.reduceLeDiff,Nat.reduceEqDiff,Nat.reduceAdd,Nat.reduceSub,Nat.reduceMul,Nat.reduceBEq,Int.reduceToNat,Int.reduceLT,Int.reduceLE,Int.reduceEq,Int.reduceAdd,Int.reduceSub,Int.reduceNeg,↓reduceIte,reduceCtorEq,K9,Hf,Kc,Hi,hll,c1,c2,c3,c4,c5,c6,c7,w1,w2,w3,hr1,hr2,hp0,if_true,if_false,Nat.sub_zero,Ebz,e1,e2,e3,e4,e5,hT,hD,hF,hB,hC];(refine lws ?_;simp only [go_sem,Nat.reduceLT,Nat.reduceEqDiff,↓reduceIte,reduceCtorEq,K9,Hf,Kc,Hi,hll,c1,c3,c4,w1,w3,Nat.sub_zero,e3]);(repeat' (first|(refine And.intro (by first | omega | (simp;done)|(simp;omega)|(intro q hq;exact h1 q (Ea7 hq))|(intro q hq;exact h1 q hq)|(intro q hq;simp at hq;subst hq;rfl)) ?_)|fail));refine Jyr (l:=.p (.bool false)) ?_ ?_
  ·exact Jod rfl rfl de sm omg
  simp only [go_sem,Nat.reduceLT,↓reduceIte];refine Jqg (B1 [(1000,40)] _ sm) ?_;simp only [go_sem,Nat.reduceEqDiff,↓reduceIte,hF];(refine Gi 8 hm kr kr ?_;simp only [go_sem,Nat.reduceLT,Nat.reduceLeDiff,Nat.reduceEqDiff,Nat.reduceAdd,↓reduceIte,reduceCtorEq,hll,c5,c6,c7,w3,hr2,e2,e3,e4,e5,hB,hC]);(repeat' (first|(refine And.intro (by first | omega | (simp;done)|(simp;omega)|(intro q hq;exact h1 q (Ea7 hq))|(intro q hq;exact h1 q hq)|(intro q hq;simp at hq;subst hq;rfl)) ?_)|fail));rw [Kj (fun _=>rfl) rfl];exact .inr ⟨_,_,rfl,by rw [Gd (by simp;omega),Ead (by simp;omega)]⟩
end Go.LX
namespace Go.LX
open Go
theorem E0:∀ a:List UInt8,Op.bytesLess a a=false
 | []=>rfl
 | x :: a=>by simp [Op.bytesLess,E0 a]
theorem H8:∀ {a b c:List UInt8},Op.bytesLess a b=true->Op.bytesLess b c=true->Op.bytesLess a c=true
 | _,[],_,h,_=>by simp [Op.bytesLess] at h
 | _,_ :: _,[],_,h=>by simp [Op.bytesLess] at h
 | [],_ :: _,_ :: _,_,_=>rfl
 | x :: a,y :: b,z :: c,h1,h2=>by
  simp only [Op.bytesLess,Eb4,decide_eq_true_eq,Ebb,beq_iff_eq] at h1 h2 ⊢;rcases h1 with h1 | ⟨rfl,h1⟩
  ·rcases h2 with h2 | ⟨rfl,h2⟩
   ·exact .inl (UInt8.lt_trans h1 h2)
   ·exact .inl h1
  ·rcases h2 with h2 | ⟨rfl,h2⟩
   ·exact .inl h2
   ·exact .inr ⟨rfl,H8 h1 h2⟩
theorem L3 {a b:List UInt8} (h:Op.bytesLess a b=true):Op.bytesLess b a=false:=by
 cases h':Op.bytesLess b a with
 | false=>rfl
 | true=>have:=H8 h h';rw [E0] at this;cases this
theorem bl_ne {a b:List UInt8} (h:Op.bytesLess a b=true):a≠b:=by
 rintro rfl;rw [E0] at h;cases h
theorem Qf:∀ {a b:List UInt8},Op.bytesLess a b=false->a≠b->Op.bytesLess b a=true
 | [],[],_,h=>absurd rfl h
 | [],_ :: _,h,_=>by simp [Op.bytesLess] at h
 | _ :: _,[],_,_=>rfl
 | x :: a,y :: b,h1,h2=>by
  simp only [Op.bytesLess,Bool.or_eq_false_iff,decide_eq_false_iff_not,Bool.and_eq_false_imp,beq_iff_eq] at h1;simp only [Op.bytesLess,Eb4,decide_eq_true_eq,Ebb,beq_iff_eq];obtain ⟨h3,h4⟩:=h1;by_cases hxy:x=y
  ·subst hxy;exact .inr ⟨rfl,Qf (h4 rfl) (by rintro rfl;exact h2 rfl)⟩
  ·left;rcases UInt8.lt_or_lt_of_ne hxy with h | h
   ·exact absurd h h3
   ·exact h
def nle (a b:List UInt8):Prop:=Op.bytesLess b a=false
theorem Jg7 {a b c:List UInt8} (h1:nle a b) (h2:nle b c):nle a c:=by
 unfold nle at *
 cases h:Op.bytesLess c a with
 | false=>rfl
 | true =>
  by_cases e:b=c
  ·subst e;rw [h1] at h;cases h
  ·have h3:=Qf h2 (Ne.symm e);have:=H8 h3 h;rw [h1] at this;cases this
abbrev KT:=List UInt8×Tree
def Rise (l:List KT):Prop:=l.Pairwise fun a b=>Op.bytesLess a.1 b.1=true
theorem Rise.tail {p:KT} {l:List KT} (h:Rise (p :: l)):Rise l:=(Eba.1 h).2
theorem Rise.nodup {l:List KT} (h:Rise l):(l.map (·.1)).Nodup:=by
 unfold List.Nodup;rw [Ec7];exact List.Pairwise.imp (fun h=>bl_ne h) h
def putL (name:List UInt8) (t:Tree):List KT->List KT
 | []=>[(name,t)]
 | p :: l=>if Op.bytesLess p.1 name=true then p :: putL name t l else (name,t) :: p :: l
theorem Hv (name:List UInt8) (t:Tree):∀ l,(putL name t l).Perm ((name,t) :: l)
 | []=>.refl _
 | p :: l=>by
  unfold putL;split
  ·exact ((Hv name t l).cons p).trans (.swap _ _ _)
  ·exact .refl _
theorem Jjz {name:List UInt8} {t:Tree} {l:List KT} {q:KT}:q∈putL name t l ↔ q=(name,t)\/q∈l:=by
 rw [(Hv name t l).mem_iff,Eaj]
theorem Lz (name:List UInt8) (t:Tree) (l:List KT):(putL name t l).length=l.length+1:=by
 rw [(Hv name t l).length_eq];rfl
theorem Kh {name:List UInt8} {t:Tree}:∀ {l:List KT},Rise l->(∀ p∈l,p.1≠name)->Rise (putL name t l)
 | [],_,_=>List.pairwise_singleton _ _
 | p :: l,h,hn=>by
  unfold putL;obtain ⟨h1,h2⟩:=Eba.1 h;split
  ·rename_i hlt;refine Eba.2 ⟨fun q hq=>?_,Kh h2 fun q hq=>hn q (Eag _ hq)⟩;rcases Jjz.1 hq with rfl | hq
   ·exact hlt
   ·exact h1 q hq
  ·rename_i hlt;have h3:=Qf (a:=p.1) (b:=name) (by simpa using hlt) (hn p Eaf);refine Eba.2 ⟨fun q hq=>?_,h⟩;rcases Eaj.1 hq with rfl | hq
   ·exact h3
   ·exact H8 h3 (h1 q hq)
theorem Jy:∀ {a b:List KT},Rise a->Rise b->a.Perm b->a=b
 | [],b,_,_,h=>(List.nil_perm.1 h).symm
 | p :: a,[],_,_,h=>by simp at h
 | p :: a,q :: b,h1,h2,h=>by
  obtain ⟨g1,g2⟩:=Eba.1 h1;obtain ⟨k1,k2⟩:=Eba.1 h2;have e:p=q:=by
   have m1:p∈q :: b:=h.mem_iff.1 Eaf;have m2:q∈p :: a:=h.mem_iff.2 Eaf;rcases Eaj.1 m1 with e | m1
   ·exact e
   ·rcases Eaj.1 m2 with e | m2
    ·exact e.symm
    ·have:=L3 (g1 q m2);rw [k1 p m1] at this;cases this
  subst e;rw [Jy g2 k2 (List.Perm.cons_inv h)]
def Lp:List KT->List KT
 | []=>[]
 | p :: l=>putL p.1 p.2 (Lp l)
theorem E3:∀ l,(Lp l).Perm l
 | []=>.refl _
 | p :: l=>(Hv _ _ _).trans ((E3 l).cons p)
theorem Jj:∀ {l:List KT},(l.map (·.1)).Nodup->Rise (Lp l)
 | [],_=>.nil
 | p :: l,h=>by
  rw [Eat,Eb0] at h;refine Kh (Jj h.2) fun q hq e=>h.1 ?_
  rw [<- e];exact List.mem_map_of_mem ((E3 l).mem_iff.1 hq)
def E1:List Bool->List KT->List KT
 | b :: D,p :: l=>if b=true then E1 D l else p :: E1 D l
 | _,_=>[]
def cntT:List Bool->Nat
 | []=>0
 | b :: D=>if b=true then cntT D+1 else cntT D
theorem Jdj:∀ D,cntT D<=D.length
 | []=>Eai _
 | b :: D=>by have:=Jdj D;simp only [cntT,List.length_cons];split <;> omega
theorem Ya:∀ {D:List Bool} {b:Nat},D[b]? = some false->cntT (D.set b true)=cntT D+1
 | [],b,h=>by simp at h
 | x :: D,0,h=>by simp at h;subst h;simp [cntT]
 | x :: D,b+1,h=>by
  simp only [List.set_cons_succ,cntT,Ya (D:=D) (b:=b) (by simpa using h)];split <;> rfl
theorem Y8:∀ {D:List Bool},(∀ j,j<D.length->D[j]? = some true)->cntT D=D.length
 | [],_=>rfl
 | x :: D,h=>by
  have h0:=h 0 sm;simp at h0;subst h0;simp only [cntT,if_true,List.length_cons];rw [Y8 fun j hj=>by simpa using h (j+1) (by simp;omega)]
theorem Rn:∀ {D:List Bool} {l:List KT},cntT D=D.length->E1 D l=[]
 | [],_,_=>rfl
 | x :: D,[],_=>rfl
 | x :: D,p :: l,h=>by
  have:=Jdj D;cases x
  ·simp [cntT] at h;omega
  ·simp [cntT] at h;simp only [E1,if_true];exact Rn h
theorem R1:∀ l:List KT,E1 (List.replicate l.length false) l=l
 | []=>rfl
 | p :: l=>by simp only [List.length_cons,List.replicate_succ,E1,Ebv,if_false,R1 l]
theorem Tn:∀ n,cntT (List.replicate n false)=0
 | 0=>rfl
 | n+1=>by simp [List.replicate_succ,cntT,Tn n]
theorem Nf:∀ {D:List Bool} {l:List KT} {p:KT},p∈E1 D l->∃ j:Nat,l[j]? = some p/\D[j]? = some false
 | [],_,p,h=>by simp [E1] at h
 | x :: D,[],p,h=>by simp [E1] at h
 | x :: D,q :: l,p,h=>by
  unfold E1 at h;split at h
  ·obtain ⟨j,h1,h2⟩:=Nf h;exact ⟨j+1,by simpa using h1,by simpa using h2⟩
  ·rename_i hx;rcases Eaj.1 h with rfl | h
   ·exact ⟨0,rfl,by simpa using hx⟩
   ·obtain ⟨j,h1,h2⟩:=Nf h;exact ⟨j+1,by simpa using h1,by simpa using h2⟩
theorem Ol:∀ {D:List Bool} {l:List KT} {p:KT} {j:Nat},l[j]? = some p->D[j]? = some false->p∈E1 D l
 | [],_,_,_,_,h=>by simp at h
 | _ :: _,[],_,_,h,_=>by simp at h
 | x :: D,q :: l,p,0,h,h'=>by
  simp at h h';subst h;subst h';simp [E1]
 | x :: D,q :: l,p,j+1,h,h'=>by
  have:=Ol (D:=D) (l:=l) (j:=j) (by simpa using h) (by simpa using h');unfold E1;split
  ·exact this
  ·exact Eag _ this
theorem Qi:∀ {D:List Bool} {l:List KT} {p:KT} {j:Nat},l[j]? = some p->D[j]? = some false->(E1 D l).Perm (p :: E1 (D.set j true) l)
 | [],_,_,_,_,h=>by simp at h
 | _ :: _,[],_,_,h,_=>by simp at h
 | x :: D,q :: l,p,0,h,h'=>by
  simp at h h';subst h;subst h';simp [E1]
 | x :: D,q :: l,p,j+1,h,h'=>by
  have:=Qi (D:=D) (l:=l) (j:=j) (by simpa using h) (by simpa using h');simp only [List.set_cons_succ,E1];split
  ·exact this
  ·exact (this.cons q).trans (.swap _ _ _)
structure Picks (l S:List KT) (D:List Bool):Prop where
 len:D.length=l.length
 cnt:cntT D=S.length
 perm:(S ++ E1 D l).Perm l
 rise:Rise S
 low:∀ s∈S,∀ p∈E1 D l,nle s.1 p.1
theorem J6n (l:List KT):Picks l [] (List.replicate l.length false) :=
 ⟨by simp,Tn _,by rw [List.nil_append,R1],.nil,by simp⟩
theorem Picks.done {l S:List KT} {D:List Bool} (h:Picks l S D) (hn:S.length=l.length):S.Perm l:=by
 have:=h.perm;rw [Rn (by rw [h.cnt,hn,h.len]),Eaz] at this;exact this
theorem Picks.next {l S:List KT} {D:List Bool} (h:Picks l S D) {b:Nat} {p:KT} (hp:l[b]? = some p) (hb:D[b]? = some false) (hm:∀ (j:Nat) (q:KT),l[j]? = some q->D[j]? = some false->nle p.1 q.1) (hl:∀ q,S.getLast? = some q->q.1≠p.1):Picks l (S ++ [p]) (D.set b true):=by
 have hpr:=Ol hp hb;have ht:=Qi hp hb;refine ⟨by simp [h.len],by rw [Ya hb,h.cnt];simp,?_,?_,?_⟩
 ·rw [Ea2];exact ((List.Perm.append_left S ht.symm)).trans h.perm
 ·refine Eb6.2 ⟨h.rise,List.pairwise_singleton _ _,fun s hs q hq=>?_⟩;rw [Eay] at hq;subst hq;have h1:=h.low s hs q hpr;by_cases e:s.1=q.1
  ·exfalso;obtain ⟨S',z,rfl⟩:∃ S' z,S=S' ++ [z]:=by
    rcases List.eq_nil_or_concat S with rfl | ⟨S',z,rfl⟩
    ·cases hs
    ·exact ⟨S',z,by simp⟩
   have hz:=hl z sm;have h2:=h.low z sm q hpr;have h3:=Qf (a:=q.1) (b:=z.1) h2 (Ne.symm hz);rcases Eau.1 hs with hs | hs
   ·have h4:=(Eb6.1 h.rise).2.2 s hs z sm;rw [e] at h4;have:=L3 h4;rw [h3] at this;cases this
   ·rw [Eay] at hs;subst hs;exact hz e
  ·exact Qf (a:=q.1) (b:=s.1) h1 (Ne.symm e)
 ·intro s hs q hq;have hq':q∈E1 D l:=ht.mem_iff.2 (Eag _ hq);rcases Eau.1 hs with hs | hs
  ·exact h.low s hs q hq'
  ·rw [Eay] at hs;subst hs;obtain ⟨j,h1,h2⟩:=Nf hq';exact hm j q h1 h2
theorem Picks.twice {l S:List KT} {D:List Bool} (h:Picks l S D) {b:Nat} {p q:KT} (hp:l[b]? = some p) (hb:D[b]? = some false) (hl:S.getLast? = some q) (he:q.1=p.1):¬ (l.map (·.1)).Nodup:=by
 intro hn;have h1:=(h.perm.map (·.1)).nodup_iff.2 hn;rw [Ebu,Ecc] at h1;exact h1.2.2 q.1 (List.mem_map_of_mem (List.mem_of_getLast? hl)) p.1 (List.mem_map_of_mem (Ol hp hb)) he
end Go.LX
namespace Go.LX
open Go Go.RowKit Go.Proofs
attribute [local irreducible] Al SWP Bi
theorem Se (es:List (List PV)) (n i:Nat) (x:List UInt8) (h:es.length=n) (hi:i<=n) (hn:n<=1500000000000) (h1:∀ q∈es,q.length=1):Det cx 143 [.own 1000 0 n,.p (.int .i64 i),.own 1001 0 1] [(1001,.row 9 1 [[.str x]]),(1000,.row 9 1 es)] (.own 900 0 (n+1)) [(900,.row 9 1 (es.take i ++ [[.str x]] ++ es.drop i)),(1001,.row 9 1 [[.str x]])]:=by
 by_cases h2:i<n
 ·exact Yh es n i x h h2 hn h1
 ·obtain rfl:i=n:=by omega
  have:=Qn es i x h hn;rw [Ead omg,Ear omg,Eaz];exact this
theorem Ss (es:List (List PV)) (n i:Nat) (x:PV) (hx:x.scalar=true) (h:es.length=n) (hi:i<=n) (hn:n<=1500000000000) (h1:∀ q∈es,q.length=1):Det cx 144 [.own 1000 0 n,.p (.int .i64 i),.own 1001 0 1] [(1001,.row 25 1 [[x]]),(1000,.row 25 1 es)] (.own 900 0 (n+1)) [(900,.row 25 1 (es.take i ++ [[x]] ++ es.drop i)),(1001,.row 25 1 [[x]])]:=by
 by_cases h2:i<n
 ·exact Jba es n i x hx h h2 hn h1
 ·obtain rfl:i=n:=by omega
  have:=S0 es i x hx h hn;rw [Ead omg,Ear omg,Eaz];exact this
theorem Vn (name:List UInt8) (t:Tree):∀ l:List KT,putL name t l=l.take (Cq name (l.map (·.1))) ++ [(name,t)] ++ l.drop (Cq name (l.map (·.1)))
 | []=>rfl
 | p :: l=>by
  simp only [putL,Eat,Cq];split
  ·rw [Vn name t l];rfl
  ·rfl
theorem U8 {name:List UInt8} {l:List KT} (h:Rise l):Mono name (l.map (·.1)):=by
 intro i j s t hij hi hj hlt;rw [Eam] at hi hj;obtain ⟨p,hp,rfl⟩:=Eak.1 hi;obtain ⟨q,hq,rfl⟩:=Eak.1 hj;rcases Nat.lt_or_eq_of_le hij with h2 | rfl
 ·obtain ⟨hp1,rfl⟩:=Eab.1 hp;obtain ⟨hq1,rfl⟩:=Eab.1 hq;exact H8 (Eca.1 h i j hp1 hq1 h2) hlt
 ·rw [hp] at hq;cases hq;exact hlt
theorem Jco (l:List KT):Bd l=strL (l.map (·.1)):=by simp [Bd,strL]
theorem N8 (name:List UInt8):∀ l:List KT,(A8 name l).Sublist l
 | []=>.slnil
 | p :: l=>by
  simp only [A8];split
  ·exact (N8 name l).cons _
  ·exact (N8 name l).cons_cons _
theorem Rise.kept {l:List KT} (h:Rise l) (name:List UInt8):Rise (A8 name l):=List.Pairwise.sublist (N8 name l) h
theorem Iv (name:List UInt8) (t:Tree):∀ l:List KT,(A1 (putL name t l)).enc.length=(A1 l).enc.length+(t.enc []).length
 | []=>by simp only [putL,A1,A0,Bl,Eac,List.length_nil,G7 t name];omega
 | p :: l=>by
  unfold putL;split
  ·simp only [A1,A0,Eac,Iv name t l];omega
  ·simp only [A1,A0,Eac,G7 t name];omega
theorem Kel (nm:List UInt8) (s:List UInt8) (g:Bool) (e:Int) (kids:Forest) (name:List UInt8) (t:Tree) (hv:kids.enc.length<=600000000000) (ht:(t.enc []).length<=600000000000) (hr:Rise (A8 name kids.list)):Det cx 93 [.p (.sl (valL ((Tree.mk 6 s g e kids).enc nm))),.p (.str name),.p (.sl (valL (t.enc [])))] [] (.p (.sl (valL ((Tree.mk 6 [] false 0 (A1 (putL name t (A8 name kids.list)))).enc [])))) []:=by
 have hw:=Jfw nm s g e kids name omg;have hkl:=El name kids;have hfl:=Jqi (A1 (A8 name kids.list));rw [Ca] at hfl;generalize hK:A8 name kids.list=K at *
 have hp:=Jc9 [] 6 [] false 0 (A1 K) omg;have hnm:=Jnc [] [] false 0 (A1 K) omg;rw [Hd,Ca] at hp hnm;have hb:=Jmd name (K.map (·.1)) (U8 hr) (by simp;omega);rw [<- Jco,Ea9] at hb;have hbl:=Qt name (K.map (·.1));rw [Ea9] at hbl;have i1:=Se (Bd K) K.length (Cq name (K.map (·.1))) name (A9 K) hbl omg (by intro q hq;obtain ⟨p,_,rfl⟩:=Eap.1 hq;rfl);have i2:=Ss (A4 K) K.length (Cq name (K.map (·.1))) (.sl (valL (t.enc []))) rfl (A5 K) hbl omg (by intro q hq;obtain ⟨p,_,rfl⟩:=Eap.1 hq;rfl);have e1:(Bd K).take (Cq name (K.map (·.1))) ++ [[PV.str name]] ++ (Bd K).drop (Cq name (K.map (·.1)))=Bd (putL name t K):=by
  rw [Vn];simp [Bd,Ecq,Edg]
 have e2:(A4 K).take (Cq name (K.map (·.1))) ++ [[PV.sl (valL (t.enc []))]] ++ (A4 K).drop (Cq name (K.map (·.1)))=A4 (putL name t K):=by
  rw [Vn];simp [A4,Ecq,Edg]
 rw [e1] at i1;rw [e2] at i2;have hla:=Jkg (putL name t K) (by rw [Iv];omega);have l1:(K.length+1<=(Bd (putL name t K)).length)=True:=eq_true (by rw [A9,Lz];omega);have l2:(K.length+1<=(A4 (putL name t K)).length)=True:=eq_true (by rw [A5,Lz];omega);have t1:(Bd (putL name t K)).take (K.length+1)=Bd (putL name t K):=Ead (by rw [A9,Lz];omega);have t2:(A4 (putL name t K)).take (K.length+1)=A4 (putL name t K):=Ead (by rw [A5,Lz];omega);(refine bgo Tryz.func93 ?_;simp only [go_sem,simprocAttr]);(repeat' (first|((first|refine Jqa hw ?_|refine Jqa hp ?_|refine Jqa hnm ?_|refine Jqa hb ?_|refine Jqa i1 ?_|refine Jqa i2 ?_|refine Jqa hla ?_);simp only [go_sem,simprocAttr,l1,l2,t1,t2])|fail))
end Go.LX
