/- Filters, the document's answer: what is left. -/
import Derived.Test.YtaghbedfogiopaaGreatDoorLxX
import Derived.Shelf.Sort.Plain
import Derived.Shelf.Slices.In.SortNone
set_option linter.unusedSimpArgs false
set_option linter.unusedVariables false
set_option linter.unusedSectionVars false
set_option linter.unnecessarySimpa false
set_option maxRecDepth 100000
set_option maxHeartbeats 2000000
namespace Go.LX
open Go Go.RowKit Go.Proofs
attribute [local irreducible] Al SWP Bi
def GW (w:Nat) (t u:Tree):Prop:=GT u/\(u.enc []).length<=w * (t.enc []).length
theorem Kba {l:List Tree} (h:∀ x∈l,GT x) (S:List Nat):∀ x∈Jqo l S,GT x:=fun x hx=>by
 obtain ⟨i,_,rfl⟩:=Eap.1 hx;unfold Jq3;rw [Eah];cases hi:l[i]? with
 | none=>exact Jwp
 | some y=>exact h y (Eae hi)
theorem Kds {grp:Bool} {s:List UInt8} {t u:Tree} (ht:GT t) (h:Jte grp s t=.ok u):GW 2 t u:=by
 have hsz:=Jq1 t;have hk:=Jtw ht;unfold Jte at h;split at h
 ·cases hf:Jru (Je s).1 (Jqe t) with
  | error e=>rw [hf] at h;cases h
  | ok ks =>
   rw [hf] at h;obtain ⟨okk,hkl,_⟩:=Jzo (fun x hx=>(hk x hx).1) hf;cases grp with
   | true =>
    cases h;refine ⟨Jti fun x hx=>?_,?_⟩
    ·obtain ⟨g,_,rfl⟩:=Eap.1 hx;exact Jti (Kba hk g)
    ·have:=Jw1 okk hkl;show ((listT ((Jri ks).map fun g=>listT (Jqo (Jqe t) g))).enc []).length<=_;rw [Jsb];omega
   | false =>
    cases h;refine ⟨Jti (Kba hk _),?_⟩;have:=Jxo hkl;show ((listT (Jqo (Jqe t) (Jra ks))).enc []).length<=_;rw [Jsb];omega
 ·cases h
theorem GW.mono {a b:Nat} {t u:Tree} (h:GW a t u) (hab:a<=b):GW b t u:=⟨h.1,Nat.le_trans h.2 (Ebf _ hab)⟩
theorem J89 {x:Step} {p:List Step} {s:List UInt8} {g:Bool} {e:Int} {kids:Forest}:delT (x :: p) (.mk 0 s g e kids)=.ok (.mk 0 s g e kids):=by rw [delT];exact if_pos rfl
theorem Jtp (l:List Tree) (h:Jqn l<=1350000000000):Det cx 69 [.p (.sl (Jqd l))] [] (.p (.sl (valL ((listT l).enc [])))) []:=by
 have:=Kfd (unT l) (by rw [J1i,J1d];exact h);rw [J1i,<- J3z] at this;exact this
theorem Jwu (v:Tree) (hv:(v.enc []).length<=1500000000000):Det cx 68 [.p (.sl (valL (v.enc [])))] [] (.p (.sl (Jqd (Jqe v)))) []:=by
 obtain ⟨k,s,g,e,kids⟩:=v;have:=Px [] k s g e kids (by rw [A6] at hv;simp at hv;omega);rw [Jst] at this;exact this
theorem J87 (v:Tree) (hv:(v.enc []).length<=1500000000000):Det cx 68 [.p (.sl (valL (v.enc [])))] [] (.own 900 0 (Jqe v).length) [(900,.row 25 1 (Jqd (Jqe v)))]:=by
 obtain ⟨k,s,g,e,kids⟩:=v;have:=Jc9 [] k s g e kids (by rw [A6] at hv;simp at hv;omega);rw [Jst,<- Jqh] at this;rw [show (Jqe (.mk k s g e kids)).length=kids.list.length from Ea9 ..];exact this
theorem J0o:∀ (l:List Tree) (j:Nat),(Jqd l).eraseIdx j=Jqd (l.eraseIdx j)
 | [],_=>rfl
 | _ :: _,0=>rfl
 | t :: l,j+1=>by
  rw [show Jqd (t :: l)=[.sl (valL (t.enc []))] :: Jqd l from rfl,List.eraseIdx_cons_succ,List.eraseIdx_cons_succ,J0o l j];rfl
theorem Jz5:∀ (p:List Step) (t:Tree),p.length<=1000->(∀ x∈p,Bc x)->GT t->(t.enc []).length<=150000000000->Det cx 22 [.p (.sl (Bb p)),.p (.sl (valL (t.enc [])))] [] (getR (delT p t)) []
 | [],t,_,_,_,_=>by
  rw [delT,getR];(refine bgo Tryz.func22 ?_;simp only [go_sem,simprocAttr,Aq]);(repeat' (first|((refine Jqa J1a ?_);simp only [go_sem,simprocAttr])|fail))
 | x :: p,t,hp,hok,hg,hv=>by
  rw [List.length_cons] at hp;have hok':∀ y∈p,Bc y:=fun y hy=>hok y (Eag _ hy)
  have hst:=hok x Eaf;have ih:=fun u hu hv=>Jz5 p u omg hok' hu hv
  have hI:=Kbd x t hst hg.1 omg;have hG:=M1 [x] t sm (fun y hy=>by simp at hy;subst hy;exact hst) omg;rw [J8w] at hG;have hgx:(Bb (x :: p))[0]? = some [.bool x.part,.str x.name,.int .i64 x.n]:=rfl;have hl1:(x :: p).length=p.length+1:=rfl;have htk1:(Bb (x :: p)).take 1=Bb [x]:=rfl;have hdx:(Bb (x :: p)).drop 1=Bb p:=rfl;have hel3:∀ q∈Bb (x :: p),q.length=3:=by
   intro q hq;obtain ⟨y,_,rfl⟩:=Eap.1 hq;rfl
  have htk:(Bb p).take p.length=Bb p:=Ead (by rw [Aq];exact Eai _);have c0:(((p.length+1:Nat):Int)=0)=False:=eq_false omg;by_cases k0:t.kind=0
  ·obtain ⟨k,s,g,e,kids⟩:=t;have k0:k=0:=k0;subst k0;have h5:inT (.mk 0 s g e kids) x=.error 5:=by
    cases hx:x.part with
    | true=>exact Iz hx de
    | false=>exact Iw hx de
   have h0:Jrc x (.mk 0 s g e kids)=.ok nilT:=by unfold Jrc;exact if_pos rfl
   rw [h5,getR] at hG;rw [h0,getR] at hI;rw [J89,getR];generalize valL ((Tree.mk 0 s g e kids).enc [])=V at *
   (refine bgo Tryz.func22 ?_;simp only [go_sem,simprocAttr,Aq,hgx,hl1,c0]);(repeat' (first|refine And.intro hel3 ?_|refine Jqj ?_|((first|refine Jqa hI ?_|refine Jqa hG ?_);simp only [go_sem,simprocAttr,Aq,hl1,htk1])|fail))
   all_goals rfl
  ·rw [delT,if_neg k0];cases hi:inT t x with
   | error e =>
    rw [hi,getR] at hG;rcases M2 hi with rfl | rfl
    ·have h5:Jrc x t=.error 5:=by
      obtain ⟨k,s,g,e,kids⟩:=t;have k0:¬ k=0:=k0;obtain ⟨b,nm,n⟩:=x;cases b with
      | true =>
       by_cases k5:k=5
       ·subst k5;rw [Tm rfl] at hi;simp only at hi;split at hi <;> cases hi
       ·exact J3l k0 k5
      | false =>
       by_cases k6:k=6
       ·subst k6;rw [Tp rfl] at hi;simp only at hi;split at hi <;> cases hi
       ·exact Jyn k0 k6
     rw [h5,getR] at hI;change Det cx _ _ _ (getR (.error 5)) _;rw [getR];generalize valL (t.enc [])=V at *
     (refine bgo Tryz.func22 ?_;simp only [go_sem,simprocAttr,Aq,hgx,hl1,c0]);(repeat' (first|((refine Jqa hI ?_);simp only [go_sem,simprocAttr])|fail))
     all_goals rfl
    ·have h6:∃ u,Jrc x t=.ok u:=by
      cases hs:Jrc x t with
      | ok u=>exact ⟨u,rfl⟩
      | error e =>
       exfalso;obtain ⟨k,s,g,e',kids⟩:=t;have k0:¬ k=0:=k0;obtain ⟨b,nm,n⟩:=x;cases b with
       | true =>
        by_cases k5:k=5
        ·subst k5;rw [Jza] at hs;cases hs
        ·rw [Iz rfl k5] at hi;cases hi
       | false =>
        by_cases k6:k=6
        ·subst k6;rw [Jw4] at hs;cases hs
        ·rw [Iw rfl k6] at hi;cases hi
     obtain ⟨u,h6⟩:=h6;rw [h6,getR] at hI;change Det cx _ _ _ (getR (.ok t)) _;rw [getR];generalize valL (t.enc [])=V at *
     (refine bgo Tryz.func22 ?_;simp only [go_sem,simprocAttr,Aq,hgx,hl1,c0]);(repeat' (first|refine And.intro hel3 ?_|refine Jqj ?_|((first|refine Jqa hI ?_|refine Jqa hG ?_);simp only [go_sem,simprocAttr,Aq,hl1,htk1])|fail))
     all_goals rfl
   | ok u =>
    rw [hi,getR] at hG;have hs:Jrc x t=.ok u:=by
     obtain ⟨k,s,g,e',kids⟩:=t;obtain ⟨b,nm,n⟩:=x;cases b with
     | true =>
      by_cases k5:k=5
      ·subst k5;rw [Jza];rw [Tm rfl] at hi;simp only at hi;cases hq:kids.list[n.toNat]? with
       | none=>rw [hq] at hi;cases hi
       | some q=>rw [hq] at hi;cases hi;rfl
      ·rw [Iz rfl k5] at hi;cases hi
     | false =>
      by_cases k6:k=6
      ·subst k6;rw [Jw4];rw [Tp rfl] at hi;simp only at hi;cases hq:Ch nm kids.list with
       | none=>rw [hq] at hi;cases hi
       | some q=>rw [hq] at hi;cases hi;rfl
      ·rw [Iw rfl k6] at hi;cases hi
    rw [hs,getR] at hI;have hgu:GT u:=J6k hg hs;have hul:=Q7 hi;cases p with
    | nil =>
     obtain ⟨k,s,g,e',kids⟩:=t;obtain ⟨b,nm,n⟩:=x;cases b with
     | true =>
      have k5:k=5:=by
       by_cases k5:k=5
       ·exact k5
       ·rw [Iz rfl k5] at hi;cases hi
      subst k5;obtain ⟨_,hn0,_⟩:=hst;have hn0:0<=n:=hn0;obtain ⟨j,rfl⟩:∃ j:Nat,n=j:=⟨n.toNat,by omega⟩
      rw [Tm rfl] at hi;have hjl:j<kids.list.length:=by
       rcases Edk j kids.list.length with h | h
       ·exact h
       ·simp only [Int.toNat_natCast,Ec1 h] at hi;cases hi
      have hkl:(Jqe (.mk 5 s g e' kids)).length=kids.list.length:=Ea9 ..
      have hsz:=Jq1 (.mk 5 s g e' kids);have hsl:=Jrh (Jqe (.mk 5 s g e' kids));have hP:=J87 (.mk 5 s g e' kids) omg;have hD:=J6d (Jqd (Jqe (.mk 5 s g e' kids))) (Jqe (.mk 5 s g e' kids)).length j sm omg omg;rw [J0o] at hD;have hL:=Jtp ((Jqe (.mk 5 s g e' kids)).eraseIdx j) (by have:=Jx7 j (Jqe (.mk 5 s g e' kids));omega);have htl:(Jqd ((Jqe (.mk 5 s g e' kids)).eraseIdx j)).take ((Jqe (.mk 5 s g e' kids)).length - 1)=Jqd ((Jqe (.mk 5 s g e' kids)).eraseIdx j):=Ead (by rw [Jqf,Ec5];split <;> omega);have hel1:=Jvr ((Jqe (.mk 5 s g e' kids)).eraseIdx j);have w1:IntKind.i64.wrap ((j:Int)+1)=((j+1:Nat):Int):=by rw [Aa omg omg];omega
      change Det cx _ _ _ (.tup [.sl (valL ((listT ((Jqe (.mk 5 s g e' kids)).eraseIdx j)).enc [])),.int .i64 0]) _;generalize valL ((Tree.mk 5 s g e' kids).enc [])=V at *
      generalize Jqe (.mk 5 s g e' kids)=K at *
      have hke:(K.length - 1<=(K.eraseIdx j).length)=True:=eq_true (by rw [Ec5];split <;> omega);(refine bgo Tryz.func22 ?_;simp only [go_sem,simprocAttr,Aq,hgx,hl1]);(repeat' (first|refine And.intro hel3 ?_|((first|refine Jqa hI ?_|refine Jqa hG ?_|refine Jqa hP ?_);simp only [go_sem,simprocAttr,Aq,hgx,hl1,htk1])|fail));(refine Gi 10 hm kr kr ?_;simp only [go_sem,simprocAttr,hgx,w1]);(repeat' (first|((first|refine Jqa hD ?_|refine Jqa hL ?_);simp only [go_sem,simprocAttr,htl,Jqf,hke])|fail))
      all_goals rfl
     | false =>
      have k6:k=6:=by
       by_cases k6:k=6
       ·exact k6
       ·rw [Iw rfl k6] at hi;cases hi
      subst k6;have hW:=Jfw [] s g e' kids nm (by rw [A6] at hv;simp at hv;omega);rw [show Tree.mk 6 [] false 0 (A1 (A8 nm kids.list))=nd 6 (A8 nm kids.list) from rfl] at hW;change Det cx _ _ _ (.tup [.sl (valL ((nd 6 (A8 nm kids.list)).enc [])),.int .i64 0]) _;generalize valL ((nd 6 (A8 nm kids.list)).enc [])=R at *
      generalize valL ((Tree.mk 6 s g e' kids).enc [])=V at *
      (refine bgo Tryz.func22 ?_;simp only [go_sem,simprocAttr,Aq,hgx,hl1]);(repeat' (first|refine And.intro hel3 ?_|((first|refine Jqa hI ?_|refine Jqa hG ?_|refine Jqa hW ?_);simp only [go_sem,simprocAttr,Aq,hgx,hl1,htk1])|fail))
      all_goals rfl
    | cons y p =>
     have hIu:=ih u hgu omg;have hl2:(y :: p).length=p.length+1:=rfl;have c2:((1:Int)<((p.length+1+1:Nat):Int))=True:=eq_true omg;have c0:(((p.length+1+1:Nat):Int)=0)=False:=eq_false omg;simp only [reduceCtorEq,if_false];cases hd:delT (y :: p) u with
     | error er =>
      rw [hd,getR] at hIu;have:=Jy1 hd;subst this;simp only [getR];generalize valL (t.enc [])=V at *
      (refine bgo Tryz.func22 ?_;simp only [go_sem,simprocAttr,Aq,hgx,hl1,hl2,c0]);(repeat' (first|refine And.intro hel3 ?_|refine Jqj ?_|((first|refine Jqa hI ?_|refine Jqa hG ?_|refine Jqa hIu ?_);simp only [go_sem,simprocAttr,Aq,hl1,hl2,htk1,c2,hdx])|fail))
      all_goals rfl
     | ok w =>
      rw [hd,getR] at hIu;have hw:=J30 hgu hd;have hS:=L8 [x] t w sm (fun z hz=>by simp only [Eaj,Ebc,or_false] at hz;subst hz;exact hst) hg.1 hw.1.1 omg;simp only;rw [Jqz] at hS ⊢;generalize valL (t.enc [])=V at *
      (refine bgo Tryz.func22 ?_;simp only [go_sem,simprocAttr,Aq,hgx,hl1,hl2,c0]);(repeat' (first|refine And.intro hel3 ?_|refine Jqj ?_|((first|refine Jqa hI ?_|refine Jqa hG ?_|refine Jqa hIu ?_|refine Jqa hS ?_);simp only [go_sem,simprocAttr,Aq,hl1,hl2,htk1,c2,hdx])|fail))
      all_goals rfl
theorem Kdr (c:List PV) (cs:List (List PV)) (h6:∀ q∈c :: cs,q.length=11) (hl:cs.length<=850000000000):Det cx 133 [.p (.sl (c :: cs))] [] (.own 900 0 (cs.length+1)) [(900,.row 38 11 (c :: cs))]:=by
 (refine bgoR true [(7,900)] Tryz.func133 ?_;simp only [go_sem,simprocAttr]);(repeat' (first|refine Jqj ?_|fail));omega
theorem Kgj (v:List YRow):Det cx 84 [.p (.sl (rowL v))] [] (.fn 132 [900]) [(900,.var 23 [.p (.sl (rowL v))])]:=by
 (refine bgoR true [(1,900)] Tryz.func84 ?_;simp only [go_sem,simprocAttr])
def Js3 (f:RF):List (List PV):=f.list.map fun p=>[.str p.1,.sl (rowL (p.2.enc []))]
theorem Jyp (f:RF):(Js3 f).length=f.len:=by simp [Js3,Jq4]
theorem Kgz (nm:List UInt8) (kd:Int) (s:List UInt8) (g:Int) (e:Node) (kids:RF) (hv:kids.enc.length<=849999999999):Tb cx 132 [.eptr [.sl (rowL ((RT.mk kd s g e kids).enc nm))]] (Js3 kids):=by
 have hl:=Jq7 kids;generalize hvv:(RT.mk kd s g e kids).enc nm=v;have h0:v.drop 0=⟨kd,kids.len,nm,s,g,e⟩ :: kids.enc:=by rw [<- hvv,Jqs];rfl
 have hg0:=Js5 h0;rw [Jr5] at hg0;have hvl:v.length=kids.enc.length+1:=by rw [<- hvv,Jqs];rfl
 (refine Juw (X:=cx) Tryz.func132 kr rfl kr (by simp only [List.length_cons,List.length_nil,Tryz.ntmps132];decide) fun l=>?_;refine N9 _ _ _ _ ?_;simp only [Tryz.ntmps132,go_sem,simprocAttr,hg0]);refine JWP.loop (fun x:Nat×Nat×RF=>(some x.1,⟨Ba 45 [(0,.yld l),(1,.eptr [.sl (rowL v)]),(3,.p (.int .i64 x.2.1)),(10,.p (.int .i64 kids.len)),(11,.p (.int .i64 x.1))],[]⟩)) (fun x=>x.1+x.2.2.len=kids.len/\v.drop x.2.1=x.2.2.enc/\x.2.1+x.2.2.enc.length=v.length/\(Js3 kids).drop x.1=Js3 x.2.2) (fun x=>x.2.2.enc.length) (0,1,kids) rfl Jqc ⟨by simp,by rw [<- hvv,Jqs];rfl,by simp only;omega,rfl⟩ ?_;rintro ⟨k,j,F⟩ ⟨h1,h2,h3,h4⟩;simp only at h1 h2 h3 h4 ⊢
 match F,h1,h2,h3,h4 with
 | .nil,h1,h2,h3,h4 =>
  simp only [RF.len] at h1;have c1:((k:Int)<(kids.len:Int))=False:=eq_false omg;(refine N9 _ _ _ _ ?_;simp only [go_sem,simprocAttr,c1]);rw [Jyp];exact .inl (by first|(congr 1;done)|(congr 1;omega))
 | .cons nm' (.mk k' s' g' e' kids') r,h1,h2,h3,h4 =>
  rw [Jve] at h1;rw [Jqv] at h2 h3;rw [Eac] at h3;have hs:=J4p h2;rw [Jqs] at h3;simp only [List.length_cons] at h3;have hs':((rowL v).drop j).take (j+((RT.mk k' s' g' e' kids').enc nm').length - j)=[.int .i64 k',.int .i64 kids'.len,.str nm',.str s',.int .i64 g',.int .i64 e'.kind,.int .i64 e'.many,.str e'.name,.str e'.s,.bool e'.neg,.int .i64 e'.e] :: rowL kids'.enc:=by
   rw [Ecp,hs,Jqs,Jxf,Jr5]
  have h2':=h2;rw [Jqs] at h2';have hg:=Js5 h2';rw [Jr5] at hg;have hel:((RT.mk k' s' g' e' kids').enc nm').length=kids'.enc.length+1:=by rw [Jqs];rfl
  have h6:∀ q∈[.int .i64 k',.int .i64 kids'.len,.str nm',.str s',.int .i64 g',.int .i64 e'.kind,.int .i64 e'.many,.str e'.name,.str e'.s,.bool e'.neg,.int .i64 e'.e] :: rowL kids'.enc,q.length=11:=fun q hq=>J1h ((RT.mk k' s' g' e' kids').enc nm') q (by rw [Jqs];exact hq)
  have htk:(rowL kids'.enc).take kids'.enc.length=rowL kids'.enc:=Ead sm;have c1:((k:Int)<(kids.len:Int))=True:=eq_true omg;(refine N9 _ _ _ _ ?_;simp only [go_sem,simprocAttr,c1,wj1 (i:=k) omg]);refine JWP.loop (fun x:Nat×Nat×RF=>(some k,⟨Ba 45 [(0,.yld l),(1,.eptr [.sl (rowL v)]),(3,.p (.int .i64 j)),(4,.p (.int .i64 x.1)),(5,.p (.int .i64 x.2.1)),(10,.p (.int .i64 kids.len)),(11,.p (.int .i64 k))],[]⟩)) (fun x=>x.2.1=x.2.2.len/\v.drop x.1=x.2.2.enc ++ r.enc/\x.1+x.2.2.enc.length=j+((RT.mk k' s' g' e' kids').enc nm').length) (fun x=>x.2.2.enc.length) (j,1,.cons nm' (.mk k' s' g' e' kids') .nil) rfl Jqc ⟨rfl,by simp [Jqv,Jsd,h2],by simp [Jqv,Jsd]⟩ ?_;rintro ⟨i,left,G⟩ ⟨p0,p1,p2⟩;simp only at p0 p1 p2
  match G,p0,p1,p2 with
  | .nil,p0,p1,p2 =>
   rw [Jsd] at p2;simp only [List.length_nil,Nat.add_zero] at p2;simp only [RF.len] at p0;subst p0;subst p2;(refine N9 _ _ _ _ ?_;simp only [go_sem,simprocAttr,hs',Jq0,wj1 (i:=k) omg]);(repeat' (first|(refine And.intro (J1h _) ?_)|refine Jqj ?_|((refine Jqa (Kdr _ _ h6 (by rw [Jq0];omega)) ?_);simp only [go_sem,simprocAttr,htk,Eai,hg,Jq0,wj1 (i:=k) omg])|fail));refine ⟨?_,⟨(k+1,j+((RT.mk k' s' g' e' kids').enc nm').length,r),⟨by simp only;omega,by simp only;rw [<- Ebg,h2,Ec4],by simp only;omega,by simp only;rw [<- Ebg,h4];rfl⟩,by simp only [Jqv,Eac];omega,rfl,Jqc⟩,.inr trivial⟩;have:=congrArg (·[0]?) h4;simp only [Ecg,Nat.add_zero] at this;rw [this];simp [Js3,RF.list,Jqs,Jxf,Jr5]
  | .cons nm2 (.mk k2 s2 g2 e2 kids2) r2,p0,p1,p2 =>
   rw [Jve] at p0;rw [Jqv,Jqs] at p1 p2;have hg2:=Js5 p1;rw [Jr5] at hg2;simp only [List.length_cons,Eac] at p2;have hl1:=Jq7 kids2;have hl2:=Jq7 r2;have w0:IntKind.i64.wrap ((kids2.len:Int) - 1)=(kids2.len:Int) - 1:=Aa omg omg;have w1:IntKind.i64.wrap ((left:Int)+((kids2.len:Int) - 1))=((r2.len+kids2.len:Nat):Int):=by rw [Aa omg omg];omega
   have c2:((0:Int)<(left:Int))=True:=eq_true omg;(refine N9 _ _ _ _ ?_;simp only [go_sem,simprocAttr,wj1 (i:=k) omg,c2,wj1 (i:=i) omg,hg2,w0,w1])
   all_goals exact ⟨(i+1,r2.len+kids2.len,kids2.app r2),⟨by simp only [Jsr];omega,by
    simp only [Jq6];rw [<- Ebg,p1];simp,by simp only [Jq6,Eac];omega⟩,by simp only [Jq6,Jqv,Jqs,Eac,List.length_cons];omega,Jqc⟩
theorem J6s {f:RF} {k:Nat} {x:List PV} (h:(Js3 f)[k]? = some x):∃ p,f.list[k]? = some p/\x=[.str p.1,.sl (rowL (p.2.enc []))]:=by
 unfold Js3 at h;rw [Eam] at h;obtain ⟨p,h1,h2⟩:=Eak.1 h;exact ⟨p,h1,h2.symm⟩
theorem J6b {f:RF} {x:List PV} (h:x∈Js3 f):x.length=2:=by
 obtain ⟨p,_,rfl⟩:=Eap.1 h;rfl
theorem J1o (nm:List UInt8) (kd:Int) (s:List UInt8) (g:Int) (e:Node) (kids:RF) (hv:kids.enc.length<=849999999999):Det cx 35 [.p (.sl (rowL ((RT.mk kd s g e kids).enc nm)))] [] (.p (.sl (Jrk kids.list))) []:=by
 (refine bgo Tryz.func35 ?_;simp only [go_sem,simprocAttr]);(repeat' (first|((refine Jqa (Kgj _) ?_);simp only [go_sem,simprocAttr])|fail));(refine SWP.range (Js3 kids) 15 [(13,900)] sm _ _ _ _ _ (fun k R=>R=if k=0 then [(1000,.var 39 [.p .snil])] else [(900,.row 23 1 (Jrk (kids.list.take k))),(1000,.var 39 [.own 900 0 k])]) (fun _ _=>False) (by rfl) (by rfl) (by rfl) (Kgz nm kd s g e kids hv) (by simp only [go_sem,simprocAttr] <;> rfl) (by first | rfl | simp [Cg]) sm ?hps (by simp only [go_sem,simprocAttr] <;> rfl) (by simp only [go_sem,simprocAttr] <;> rfl) (by simp only [go_sem,simprocAttr] <;> rfl) ?h0 ?hkI ?hkS ?hSn ?round ?done ?stop)
 case hps=>exact fun x hx=>J6b hx
 case h0=>rfl
 case hkI=>rintro k R rfl;split <;> simp [Hg,findKey]
 case hkS=>exact fun _ _ h=>h.elim
 case hSn=>exact fun _ h=>h
 case stop=>exact fun _ _ h=>h.elim
 case round =>
  rintro k x R l hx rfl;obtain ⟨p,hp,rfl⟩:=J6s hx;by_cases hk:k=0
  ·subst hk;rw [if_pos rfl];simp only [go_sem,simprocAttr];(refine lws ?_;simp only [go_sem,simprocAttr]);refine ⟨by simp,_,rfl,?_⟩;rw [Jwq hp];exact (Jqt (by simp only [Ar]) (by simp (disch:=omega) [Az,A3,Aw,Am,Af,Ai,Au,Aa]) (by simp [Ay]))
  ·rw [if_neg hk];have hkl:=(Eab.1 hp).1;rw [Jq4] at hkl;have hll:=Jq7 kids;simp only [go_sem,simprocAttr];(refine lws ?_;simp only [go_sem,simprocAttr]);refine ⟨by simp,by rw [Jrg,Eaw,Jq4];omega,by omega,by omega,_,rfl,?_⟩;rw [Jwq hp];exact (Jqt (by simp only [Ar]) (by simp (disch:=omega) [Az,A3,Aw,Am,Af,Ai,Au,Aa]) (by simp [Ay]))
 case done =>
  rintro R rfl;rw [Jyp];have hll:=Jq4 kids;have hle:=Jq7 kids;by_cases hk:kids.len=0
  ·rw [if_pos hk];have hnil:kids.list=[]:=Eal omg;rw [hnil];simp only [go_sem,simprocAttr];refine ⟨⟨Ba 15 [(3,.ptr 3 0 0)],[(3,.var 39 [.p (.sl [])])]⟩,Jqc,?_⟩;simp only [go_sem,simprocAttr];rfl
  ·rw [if_neg hk];have htk:kids.list.take kids.len=kids.list:=Ead omg;rw [htk];have hpl:(kids.len<=(Jrk kids.list).length)=True:=eq_true (by rw [Jrg];omega);have hpt:(Jrk kids.list).take kids.len=Jrk kids.list:=Ead (by rw [Jrg];omega);simp only [go_sem,simprocAttr];refine ⟨_,St.Le.refl _,?_⟩;simp only [go_sem,simprocAttr,hpl,hpt]
theorem J4c (l:List Tree) (S:List Nat) (hS:∀ i∈S,i<l.length) (hSl:S.length<=1350000000000) (hz:Jqn (Jqo l S)<=1350000000000):Det cx 94 [.p (.sl (Jqd l)),.p (.sl (natL S))] [] (.p (.sl (valL ((listT (Jqo l S)).enc [])))) []:=by
 have hL:=Jtp (Jqo l S) hz;have hpl:(Jqo l S).length=S.length:=by simp [Jqo]
 (refine bgo Tryz.func94 ?_;simp only [go_sem,simprocAttr,Jqx]);refine Jqg (Jrw _ (i:=5) (d:=20) 25 1 (.inl de) rfl) ?_;simp only [St.nilOwn,St.nilReg,go_sem,simprocAttr,Jqx];refine SWP.loop (fun k:Nat=>⟨Ba 24 [(0,.p (.sl (Jqd l))),(5,.own 20 0 k),(8,.p (.sl (natL S))),(9,.p (.int .i64 S.length)),(10,.p (.int .i64 k))],[(20,.row 25 1 (Jqd (Jqo l (S.take k))))]⟩) (fun k=>k<=S.length) (fun k=>S.length - k) 0 Jqc (Eav _) ?_;rintro k hk;by_cases hlt:k<S.length
 ·have c1:((k:Int)<(S.length:Int))=True:=eq_true omg;obtain ⟨i,hi⟩:∃ i,S[k]? = some i:=⟨_,Eaa hlt⟩
  have hil:=hS i (Eae hi);obtain ⟨t,ht⟩:∃ t,l[i]? = some t:=⟨_,Eaa hil⟩
  have g1:=Juk hi;have g2:=Jq5 ht;have hln:(Jqd (Jqo l (S.take k))).length=k:=by rw [Jqf];simp [Jqo];omega
  have htk:Jqd (Jqo l (S.take (k+1)))=Jqd (Jqo l (S.take k)) ++ [[.sl (valL (t.enc []))]]:=by
   rw [Jry hi];unfold Jqo;rw [Ebu,Jrl,Eat,Eb5,Jrq ht];rfl
  (refine lws ?_;simp only [go_sem,simprocAttr,c1,g1,g2,hln,wj1 (i:=k) omg]);(repeat' (first|(refine And.intro (by first|(simp;done)|(simp;omega)) ?_)|refine Jqj ?_|fail))
  all_goals exact ⟨k+1,by omega,by omega,by rw [htk];exact Jqc⟩
 ·obtain rfl:k=S.length:=by omega
  have c1:((S.length:Int)<(S.length:Int))=False:=eq_false omg;have ht1:S.take S.length=S:=Ead (Eai _);have ht2:(Jqd (Jqo l S)).take S.length=Jqd (Jqo l S):=Ead (by simp [hpl]);have hle:(S.length<=(Jqd (Jqo l S)).length)=True:=eq_true (by simp [hpl]);(refine lws ?_;simp only [go_sem,simprocAttr,c1,ht1,ht2,hle]);(repeat' (first|((refine Jqa hL ?_);simp only [go_sem,simprocAttr])|fail))
theorem J7d (rs:List Int):(rs.flatMap fun n=>(Utf8.encode n).data.toList)=utfs rs:=by simp only [R8];rfl
def runR (rs:List Int):List (List PV):=rs.map fun n=>[.int .i32 n]
@[simp] theorem Jyw (rs:List Int):(runR rs).length=rs.length:=by simp [runR]
theorem Ka4 {rs:List Int}:Jui (runR rs)=some rs:=J0r
theorem Kcr (rs:List Int):(runR rs).take rs.length=runR rs:=Ead sm
theorem Jsx (l:List (List UInt8)):(strL l).length=l.length:=by simp [strL]
end Go.LX
namespace Go.Proofs
open Go.Shelf
end Go.Proofs
set_option maxRecDepth 100000
set_option maxHeartbeats 2000000
namespace Go.LX
open Go Go.RowKit Go.Proofs
attribute [local irreducible] Al SWP Bi
attribute [go_sem] Tryz.ntmps89 Tryz.results89 Tryz.ntmps135 Tryz.results135
end Go.LX
namespace Go.Proofs
open Go.Shelf
end Go.Proofs
set_option maxRecDepth 100000
set_option maxHeartbeats 2000000
namespace Go.LX
open Go Go.RowKit Go.Proofs
attribute [local irreducible] Al SWP Bi
end Go.LX
namespace Go.LX
open Go Go.RowKit Go.Proofs
attribute [local irreducible] Al SWP Bi
def Jsh (ks:List Tree):List Nat->List Nat->List Nat
 | [],b=>b
 | x :: a,[]=>x :: a
 | x :: a,y :: b=>if cmpT (Jq3 ks y) (Jq3 ks x)<0 then y :: Jsh ks (x :: a) b else x :: Jsh ks a (y :: b)
termination_by a b=>a.length+b.length
theorem Jwg (ks:List Tree) (b:List Nat):Jsh ks [] b=b:=by rw [Jsh]
theorem Jv0 (ks:List Tree) (a:List Nat):Jsh ks a []=a:=by cases a <;> rw [Jsh]
theorem Jxd {ks:List Tree} {x y:Nat} {a b:List Nat} (h:cmpT (Jq3 ks y) (Jq3 ks x)<0):Jsh ks (x :: a) (y :: b)=y :: Jsh ks (x :: a) b:=by rw [Jsh,if_pos h]
theorem Jxn {ks:List Tree} {x y:Nat} {a b:List Nat} (h:¬ cmpT (Jq3 ks y) (Jq3 ks x)<0):Jsh ks (x :: a) (y :: b)=x :: Jsh ks a (y :: b):=by rw [Jsh,if_neg h]
theorem Jyb (ks:List Tree):∀ (n:Nat) (a b:List Nat),a.length+b.length<=n->(Jsh ks a b).length=a.length+b.length
 | _,[],b,_=>by rw [Jwg];simp
 | _,x :: a,[],_=>by rw [Jv0];simp
 | 0,x :: a,y :: b,h=>by simp at h
 | n+1,x :: a,y :: b,h=>by
  simp only [List.length_cons] at h;by_cases c:cmpT (Jq3 ks y) (Jq3 ks x)<0
  ·rw [Jxd c,List.length_cons,Jyb ks n (x :: a) b (by simp only [List.length_cons];omega)];simp only [List.length_cons];omega
  ·rw [Jxn c,List.length_cons,Jyb ks n a (y :: b) (by simp only [List.length_cons];omega)];simp only [List.length_cons];omega
theorem Juo (ks:List Tree):∀ (n:Nat) (a b:List Nat),a.length+b.length<=n->∀ i,i∈Jsh ks a b ↔ i∈a\/i∈b
 | _,[],b,_,i=>by rw [Jwg];simp
 | _,x :: a,[],_,i=>by rw [Jv0];simp
 | 0,x :: a,y :: b,h,i=>by simp at h
 | n+1,x :: a,y :: b,h,i=>by
  simp only [List.length_cons] at h;by_cases c:cmpT (Jq3 ks y) (Jq3 ks x)<0
  ·rw [Jxd c,Eaj,Juo ks n (x :: a) b (by simp only [List.length_cons];omega)];simp only [Eaj];constructor
   ·rintro (h | (h | h) | h)
    ·exact .inr (.inl h)
    ·exact .inl (.inl h)
    ·exact .inl (.inr h)
    ·exact .inr (.inr h)
   ·rintro ((h | h)|(h | h))
    ·exact .inr (.inl (.inl h))
    ·exact .inr (.inl (.inr h))
    ·exact .inl h
    ·exact .inr (.inr h)
  ·rw [Jxn c,Eaj,Juo ks n a (y :: b) (by simp only [List.length_cons];omega)];simp only [Eaj];constructor
   ·rintro (h | h | h)
    ·exact .inl (.inl h)
    ·exact .inl (.inr h)
    ·exact .inr h
   ·rintro ((h | h) | h)
    ·exact .inl h
    ·exact .inr (.inl h)
    ·exact .inr (.inr h)
theorem Jx6 {ks:List Tree} (ok:okK ks):∀ (n:Nat) (a b:List Nat),a.length+b.length<=n->a.Pairwise (fun x y=>ltB ks x y=true)->b.Pairwise (fun x y=>ltB ks x y=true)->(∀ x∈a,∀ y∈b,x<y)->(Jsh ks a b).Pairwise fun x y=>ltB ks x y=true
 | _,[],b,_,_,hb,_=>by rw [Jwg];exact hb
 | _,x :: a,[],_,ha,_,_=>by rw [Jv0];exact ha
 | 0,x :: a,y :: b,h,_,_,_=>by simp at h
 | n+1,x :: a,y :: b,h,ha,hb,hab=>by
  simp only [List.length_cons] at h;obtain ⟨ha1,ha2⟩:=Eba.1 ha;obtain ⟨hb1,hb2⟩:=Eba.1 hb;have hxy:=hab x Eaf y Eaf;by_cases c:cmpT (Jq3 ks y) (Jq3 ks x)<0
  ·have hyx:ltB ks y x=true:=by unfold ltB;rw [decide_eq_true_eq];exact .inl c
   rw [Jxd c];refine Eba.2 ⟨fun z hz=>?_,Jx6 ok n (x :: a) b (by simp only [List.length_cons];omega) ha hb2 fun u hu v hv=>hab u hu v (Eag _ hv)⟩;rcases (Juo ks _ _ _ (Eai _) z).1 hz with hz | hz
   ·rcases Eaj.1 hz with rfl | hz
    ·exact hyx
    ·exact Jxl ok hyx (ha1 z hz)
   ·exact hb1 z hz
  ·have hxy':ltB ks x y=true:=by
    unfold ltB;rw [decide_eq_true_eq];have hs:=J0g (Jtb ok y) (Jtb ok x);by_cases h0:cmpT (Jq3 ks x) (Jq3 ks y)=0
    ·exact .inr ⟨h0,hxy⟩
    ·exact .inl omg
   rw [Jxn c];refine Eba.2 ⟨fun z hz=>?_,Jx6 ok n a (y :: b) (by simp only [List.length_cons];omega) ha2 hb fun u hu v hv=>hab u (Eag _ hu) v hv⟩;rcases (Juo ks _ _ _ (Eai _) z).1 hz with hz | hz
   ·exact ha1 z hz
   ·rcases Eaj.1 hz with rfl | hz
    ·exact hxy'
    ·exact Jxl ok hxy' (hb1 z hz)
def Jt8 (ks:List Tree):Nat->List Nat->List Nat
 | 0,l=>l
 | n+1,l=>if l.length<2 then l else Jsh ks (Jt8 ks n (l.take (l.length / 2))) (Jt8 ks n (l.drop (l.length / 2)))
theorem Jt0 {ks:List Tree} (ok:okK ks):∀ (n:Nat) (l:List Nat),l.length<=n->l.Pairwise (· < ·)->(∀ i,i∈Jt8 ks n l ↔ i∈l)/\(Jt8 ks n l).Pairwise (fun x y=>ltB ks x y=true)/\(Jt8 ks n l).length=l.length
 | 0,l,h,_=>by
  have:l=[]:=Eal omg;subst this;exact ⟨fun i=>Iff.rfl,.nil,rfl⟩
 | n+1,l,h,hp=>by
  rw [Jt8];by_cases h2:l.length<2
  ·rw [if_pos h2];refine ⟨fun i=>Iff.rfl,?_,rfl⟩
   match l,h2 with
   | [],_=>exact .nil
   | [x],_=>exact List.pairwise_singleton _ _
  ·rw [if_neg h2];have e:l.take (l.length / 2) ++ l.drop (l.length / 2)=l:=Ebl _ _;have hp':=hp;rw [<- e,Eb6] at hp';obtain ⟨p1,p2,p3⟩:=hp';obtain ⟨a1,a2,a3⟩:=Jt0 ok n (l.take (l.length / 2)) (by rw [Eaw];omega) p1;obtain ⟨b1,b2,b3⟩:=Jt0 ok n (l.drop (l.length / 2)) (by rw [Ea4];omega) p2;refine ⟨fun i=>?_,Jx6 ok _ _ _ (Eai _) a2 b2 fun x hx y hy=>p3 x ((a1 x).1 hx) y ((b1 y).1 hy),?_⟩
   ·rw [Juo ks _ _ _ (Eai _),a1,b1,<- Eau,e]
   ·rw [Jyb ks _ _ _ (Eai _),a3,b3,Eaw,Ea4];omega
theorem Kdm {ks:List Tree} (ok:okK ks):Jt8 ks ks.length (List.range ks.length)=Jra ks:=by
 obtain ⟨h1,h2,_⟩:=Jt0 ok ks.length (List.range ks.length) sm List.pairwise_lt_range;exact J53 ok (fun i=>by rw [h1,List.mem_range]) h2
def J4h (ks:List Tree):Prop:=okK ks/\ks.length<=1500000000000/\∀ t∈ks,(t.enc []).length<=1500000000000
theorem Khi (ks:List Tree) (hk:J4h ks) (x y:Nat) (hx:x<ks.length) (hy:y<ks.length):Det cx 146 [.p (.int .i64 x),.p (.int .i64 y),.eptr [.sl (Jqd ks)]] [] (.p (.bool (decide (cmpT (Jq3 ks x) (Jq3 ks y)<0)))) []:=by
 obtain ⟨a,ha⟩:∃ a,ks[x]? = some a:=⟨_,Eaa hx⟩
 obtain ⟨b,hb⟩:∃ b,ks[y]? = some b:=⟨_,Eaa hy⟩
 have ga:=Jq5 ha;have gb:=Jq5 hb;have ma:=Eae ha;have mb:=Eae hb;have hC:=Ke2 _ a b (Eai _) (hk.1 a ma) (hk.1 b mb) (hk.2.2 a ma) (hk.2.2 b mb);rw [Jrq ha,Jrq hb];(refine bgo Tryz.func146 ?_;simp only [go_sem,simprocAttr]);(repeat' (first|((first|refine Jqm ?_|refine Jqb hC ?_);simp only [go_sem,simprocAttr,ga,gb])|fail))
end Go.LX
namespace Go.LX
open Go Go.RowKit Go.Proofs
theorem J1q (s:St) (d:Nat) {T:TypeId} {ls:List L} {ps:List PV} (hr:Am d s.regs=some (.var T ls)) (hp:Bg L.pure? ls=some ps):s.Le (Dx d (some (.ar ps)) s):=by
 rintro Γ a w ⟨ms,hdef,β,Im,hx⟩;exact ⟨ms,hdef,β,_,hx.freezeZ d (.ar ps) ⟨_,_,hx.fit.regs d _ (Ax hr),hp⟩ _ (Ax hr)⟩
def farC:L->Bool
 | .p _=>true
 | .eptr _=>true
 | .fn _ []=>true
 | .tup _=>true
 | _=>false
section
variable {X:Cx} {ro:Option Nat} {ops:Array Oper}
def Ke5 (o:Oper):Bool:=o.guard.isNone && match o.op with
 | .move _=>true
 | .extract ..=>true
 | .call { callee:=.value _,args:=_,argTypes:=_ }=>true
 | _=>false
def Kg6 (s:St) (o:Oper):Prop:=∀ x∈o.op.operands.toList,farC (s.get x)=true/\(Ke5 o=true\/farL (s.get x)=true)
def lTakeC (X:Cx) (ds:List (Option Tmp)) (ops:List Oper) (E:St->Prop):List Nat->St->Prop
 | [],s=>E s
 | i :: I,s=>match ops[i]? with
  | some o=>Kg6 s o/\YS X ds s o fun l=>farC l=true/\lTakeC X ds ops E I (s.put o.dst l)
  | none=>False
def takeCB (ops:Array Oper) (k:Nat):List Nat->Array Bool->Bool
 | [],_=>true
 | i :: I,listed=>(Region.ready .any ops listed).contains i && (Region.free .any ops listed i && (decide (i<k) && ((match ops[i]? with | some o=>Jwf o || Ke5 o | none=>false) && ((List.range ops.size).all (fun j=>decide (j<k) || (ancB .any ops ops.size i j || match ops[j]? with | some o=>Jv5 o || Jwk o | none=>false)) && takeCB ops k I (listed.setIfInBounds i true)))))
end
section
variable {X:Cx} {ds:List (Option Tmp)} {t:List L} {r:Regs} {E:St->Prop} {dst:Option Tmp} {ty:TypeId} {ps:String} {af:Array Edge} {g:Option (Nat×Bool)}
def kfarC (dst:Option Tmp) (C:St->Prop) (s:St) (l:L):Prop:=farC l=true/\C (s.put dst l)
theorem far_of {l:L}:(farC l=true/\farL l=true)=(farL l=true):=by
 cases l <;> simp [farC,farL]
end
attribute [local irreducible] Al Bi SWP
theorem Kdd (ks:List Tree) (hk:J4h ks) (a b:List Nat) (ha:∀ i∈a,i<ks.length) (hb:∀ i∈b,i<ks.length) (hl:a.length+b.length<=1500000000000):Det cx 184 [.p (.sl (natL a)),.p (.sl (natL b)),.p (.clo 146 [.sl (Jqd ks)])] [] (.p (.sl (natL (Jsh ks a b)))) []:=by
 have wl:IntKind.i64.wrap ((a.length:Int)+(b.length:Int))=((a.length+b.length:Nat):Int):=by rw [Aa omg omg];omega
 have wl0:((0:Int)<=((a.length+b.length:Nat):Int))=True:=eq_true omg;(refine bgo Tryz.func184 ?_;simp only [go_sem,simprocAttr,Jqx,wl,wl0]);(repeat' (first|refine Jqj ?_|fail));refine SWP.loop (fun x:List Nat×List Nat×List Nat=>⟨Ba 51 [(0,.p (.sl (natL x.2.1))),(1,.p (.sl (natL x.2.2))),(2,.p (.clo 146 [.sl (Jqd ks)])),(7,.own 13 0 x.1.length)],[(13,.row 3 1 (natL x.1))]⟩) (fun x=>Jsh ks a b=x.1 ++ Jsh ks x.2.1 x.2.2/\(∀ i∈x.2.1,i<ks.length)/\(∀ i∈x.2.2,i<ks.length)/\x.1.length+x.2.1.length+x.2.2.length<=a.length+b.length) (fun x=>x.2.1.length+x.2.2.length) ([],a,b) Jqc ⟨rfl,ha,hb,by simp⟩ ?_;rintro ⟨o,u,v⟩ ⟨h1,h2,h3,h4⟩;simp only at h1 h2 h3 h4;have hcon:∀ n:Nat,natL o ++ [[.int .i64 (n:Int)]]=natL (o ++ [n]):=fun n=>(Jvf o [n]).symm
 cases u with
 | nil =>
  rw [Jwg] at h1;rw [h1];have c1:((0:Int)<((0:Nat):Int))=False:=eq_false omg;have hc2:natL o ++ natL v=natL (o ++ v):=(Jvf o v).symm;have ht:(natL (o ++ v)).take (o.length+v.length)=natL (o ++ v):=Ead sm;have hln:(o.length+v.length<=(o ++ v).length)=True:=eq_true sm;have hel:=Jwd v;(refine lws ?_;simp only [go_sem,simprocAttr,Jqx,hc2,ht,hln,J28,Eaz,List.length_nil,Nat.add_zero]);(repeat' (first|(refine And.intro (by first | exact hel | (simp;done)|(simp at h4 ⊢;omega)) ?_)|fail))
  all_goals (simp at h4;omega)
 | cons x u =>
  have c1:((0:Int)<(((x :: u).length:Nat):Int))=True:=eq_true (by simp only [List.length_cons];omega);have gx:(natL (x :: u))[0]? = some [.int .i64 (x:Int)]:=rfl;have dx:(natL (x :: u)).drop 1=natL u:=rfl;cases v with
  | nil =>
   rw [Jv0] at h1;rw [h1];have c2:((0:Int)<((0:Nat):Int))=False:=eq_false omg;have hc2:natL o ++ natL (x :: u)=natL (o ++ x :: u):=(Jvf o (x :: u)).symm;have ht:(natL (o ++ x :: u)).take (o.length+(u.length+1))=natL (o ++ x :: u):=Ead sm;have hln:(o.length+(u.length+1)<=(o ++ x :: u).length)=True:=eq_true sm;have hnt:(0<((u.length+1:Nat):Int))=True:=eq_true omg;have hel:=Jwd (x :: u);(refine lws ?_;simp only [go_sem,simprocAttr,Jqx,hc2,ht,hln,J28,Eaz,List.length_nil,Nat.add_zero]);(repeat' (first|(refine And.intro (by first | exact hel | (simp;done)|(simp at h4 ⊢;omega)) ?_)|(apply iteI<;>intro h)|(exfalso;omega)))
   all_goals (simp at h4;omega)
  | cons y v =>
   have c2:((0:Int)<(((y :: v).length:Nat):Int))=True:=eq_true (by simp only [List.length_cons];omega);have gy:(natL (y :: v))[0]? = some [.int .i64 (y:Int)]:=rfl;have dy:(natL (y :: v)).drop 1=natL v:=rfl;have hL:=Khi ks hk y x (h3 y Eaf) (h2 x Eaf);have lx:(x :: u).length=u.length+1:=rfl;have ly:(y :: v).length=v.length+1:=rfl;rw [lx,ly] at h4;have tku:(natL u).take u.length=natL u:=Ead sm;have tkv:(natL v).take v.length=natL v:=Ead sm;by_cases c:cmpT (Jq3 ks y) (Jq3 ks x)<0
   ·rw [decide_eq_true c] at hL;rw [Jxd c] at h1;rw [lx] at c1;rw [ly] at c2;(refine lws ?_;simp only [go_sem,simprocAttr,Jqx,c1,c2,lx,ly]);(repeat' (first|((first|refine Jqm ?_|refine Jqb hL ?_);simp only [go_sem,simprocAttr,gx,gy])|fail));refine J1j (qj 0 4 6 8) [1,2,3,6,7] (.node 0 (.node 4 (.node 5 (.node 8 (.node 9 .leaf .nil) .nil) .nil) .nil) (.node 4 (.node 0 (.node 5 (.node 8 (.node 9 .leaf .nil) .nil) .nil) .nil) .nil)) 5 hm rfl kr kr ?_;simp only [go_sem,simprocAttr,Jqx,gy,dy,lx,ly];have hel:=Jwd (y :: v);have hcz:=hcon y;have hln:(o ++ [y]).length=o.length+1:=by simp
    (repeat' (first|(refine And.intro (by first | exact hel | (simp;done)|(simp;omega)) ?_)|fail))
    all_goals (repeat' (refine And.intro ?_ ?_))
    all_goals first | omega | exact hel | (simp;done)|(refine ⟨(o ++ [y],x :: u,v),⟨by rw [h1,Ea2];rfl,h2,fun i hi=>h3 i (Eag _ hi),by simp only [Eac,List.length_cons,List.length_nil];omega⟩,by simp only [List.length_cons];omega,St.Le.trans (B1 [(35,13)] _ sm) ?_⟩;simp only [go_sem,simprocAttr];rw [hln,hcz];exact Jqc)
   ·rw [decide_eq_false c] at hL;rw [Jxn c] at h1;rw [lx] at c1;rw [ly] at c2;(refine lws ?_;simp only [go_sem,simprocAttr,Jqx,c1,c2,lx,ly]);(repeat' (first|((first|refine Jqm ?_|refine Jqb hL ?_);simp only [go_sem,simprocAttr,gx,gy])|fail));refine J1j (qj 0 4 6 8) [1,2,3,6,7] (.node 0 (.node 4 (.node 5 (.node 8 (.node 9 .leaf .nil) .nil) .nil) .nil) (.node 4 (.node 0 (.node 5 (.node 8 (.node 9 .leaf .nil) .nil) .nil) .nil) .nil)) 5 hm rfl kr kr ?_;simp only [go_sem,simprocAttr,Jqx,gx,dx,lx,ly];have hel:=Jwd (x :: u);have hcz:=hcon x;have hln:(o ++ [x]).length=o.length+1:=by simp
    (repeat' (first|(refine And.intro (by first | exact hel | (simp;done)|(simp;omega)) ?_)|fail))
    all_goals (repeat' (refine And.intro ?_ ?_))
    all_goals first | omega | exact hel | (simp;done)|(refine ⟨(o ++ [x],u,y :: v),⟨by rw [h1,Ea2];rfl,fun i hi=>h2 i (Eag _ hi),h3,by simp only [Eac,List.length_cons,List.length_nil];omega⟩,by simp only [List.length_cons];omega,St.Le.trans (B1 [(43,13)] _ sm) ?_⟩;simp only [go_sem,simprocAttr];rw [hln,hcz];exact Jqc)
theorem Jyg (ks:List Tree) (hk:J4h ks):∀ (n:Nat) (l:List Nat),l.length<=n->(∀ i∈l,i<ks.length)->l.length<=1500000000000->l.Pairwise (· < ·)->Det cx 145 [.p (.sl (natL l)),.p (.clo 146 [.sl (Jqd ks)])] [] (.p (.sl (natL (Jt8 ks n l)))) []
 | 0,l,hn,_,_,_=>by
  have:l=[]:=Eal omg;subst this;rw [Jt8];(refine bgo Tryz.func145 ?_;simp only [go_sem,simprocAttr,J28])
  skip
 | n+1,l,hn,hi,hl,hp=>by
  rw [Jt8];by_cases h2:l.length<2
  ·have c1:((l.length:Int)<2)=True:=eq_true omg;rw [if_pos h2];(refine bgo Tryz.func145 ?_;simp only [go_sem,simprocAttr,c1,Jqx])
   skip
  ·have c1:((l.length:Int)<2)=False:=eq_false omg;rw [if_neg h2];have hd2:((l.length:Int)).tdiv 2=((l.length / 2:Nat):Int):=rfl;have hw:IntKind.i64.wrap ((l.length / 2:Nat):Int)=((l.length / 2:Nat):Int):=Aa omg omg;have e:l.take (l.length / 2) ++ l.drop (l.length / 2)=l:=Ebl _ _;have hp':=hp;rw [<- e,Eb6] at hp';obtain ⟨p1,p2,_⟩:=hp';have i1:∀ i∈l.take (l.length / 2),i<ks.length:=fun i h=>hi i (Ebm h)
   have i2:∀ i∈l.drop (l.length / 2),i<ks.length:=fun i h=>hi i (Ea7 h)
   have l1:(l.take (l.length / 2)).length=l.length / 2:=by rw [Eaw];omega
   have l2:(l.drop (l.length / 2)).length=l.length - l.length / 2:=Ea4 ..
   have A:=Jyg ks hk n (l.take (l.length / 2)) omg i1 omg p1;have B:=Jyg ks hk n (l.drop (l.length / 2)) omg i2 omg p2;obtain ⟨a1,_,a3⟩:=Jt0 hk.1 n (l.take (l.length / 2)) omg p1;obtain ⟨b1,_,b3⟩:=Jt0 hk.1 n (l.drop (l.length / 2)) omg p2;have M:=Kdd ks hk (Jt8 ks n (l.take (l.length / 2))) (Jt8 ks n (l.drop (l.length / 2))) (fun i h=>i1 i ((a1 i).1 h)) (fun i h=>i2 i ((b1 i).1 h)) (by rw [a3,b3,l1,l2];omega);have t1:natL (l.take (l.length / 2))=(natL l).take (l.length / 2):=by simp [natL,Ecq]
   have t2:natL (l.drop (l.length / 2))=(natL l).drop (l.length / 2):=by simp [natL,Edg]
   rw [t1] at A;rw [t2] at B;have tk:((natL l).drop (l.length / 2)).take (l.length - l.length / 2)=(natL l).drop (l.length / 2):=Ead sm;have q1:(l.length / 2<=l.length)=True:=eq_true omg;have hel:=Jwd l;(refine bgo Tryz.func145 ?_;simp only [go_sem,simprocAttr,c1,Jqx,hd2,hw]);(repeat' (first|(refine And.intro (by first | exact hel | omega) ?_)|((first|refine Jqm ?_|refine Jqb A ?_|refine Jqb B ?_|refine Jqb M ?_);simp only [go_sem,simprocAttr,Jqx])|fail))
theorem Kam {n i:Nat} (h:i<n):(natL (List.range i ++ List.replicate (n - i) 0)).set i [.int .i64 (i:Int)]=natL (List.range (i+1) ++ List.replicate (n - (i+1)) 0):=by
 have e:n - i=(n - (i+1))+1:=by omega
 have e2:i=(List.range i).length:=by simp
 unfold natL;rw [e,Ec6];rw [List.replicate_succ];simp only [Ebu,Eat]
 conv=>lhs;arg 2;rw [e2]
 rw [List.set_append_right _ _ sm];simp
theorem Kbp (ks:List Tree) (hk:J4h ks):Det cx 95 [.p (.sl (Jqd ks))] [] (.p (.sl (natL (Jra ks)))) []:=by
 have hS:=Jyg ks hk ks.length (List.range ks.length) sm (fun i h=>List.mem_range.1 h) (by have:=hk.2.1;simp;omega) List.pairwise_lt_range;rw [Kdm hk.1] at hS;have hkl:=hk.2.1;have hz:List.replicate ks.length [PV.int .i64 0]=natL (List.range 0 ++ List.replicate (ks.length - 0) 0):=by simp [natL]
 have c0:((0:Int)<=(ks.length:Int))=True:=eq_true omg;(refine bgo Tryz.func95 ?_;simp only [go_sem,simprocAttr,Jqf,hz,c0]);(repeat' (first|refine Jqj ?_|fail));refine SWP.loop (fun i:Nat=>⟨Ba 21 [(1,.ptr 1 0 0),(3,.own 7 0 ks.length),(9,.p (.int .i64 ks.length)),(10,.p (.int .i64 i))],[(7,.row 3 1 (natL (List.range i ++ List.replicate (ks.length - i) 0))),(1,.var 53 [.p (.sl (Jqd ks))])]⟩) (fun i=>i<=ks.length) (fun i=>ks.length - i) 0 Jqc (Eav _) ?_;rintro i hi;by_cases hlt:i<ks.length
 ·have c1:((i:Int)<(ks.length:Int))=True:=eq_true omg;have hset:=Kam hlt;have gi:(natL (List.range i ++ List.replicate (ks.length - i) 0))[i]? = some [.int .i64 ((0:Nat):Int)]:=Juk (by rw [Ean sm,List.length_range,Nat.sub_self,Ech,if_pos omg]);(refine lws ?_;simp only [go_sem,simprocAttr,c1,hset,gi,wj1 (i:=i) omg])
  all_goals exact ⟨i+1,by omega,by omega,by rw [Ec6];exact Jqc⟩
 ·obtain rfl:i=ks.length:=by omega
  have c1:((ks.length:Int)<(ks.length:Int))=False:=eq_false omg;rw [Nat.sub_self,List.replicate_zero,Eaz];refine Jqg (J1q _ 1 (T:=53) (ls:=[.p (.sl (Jqd ks))]) (ps:=[.sl (Jqd ks)]) rfl rfl) ?_;have tk:(natL (List.range ks.length)).take ks.length=natL (List.range ks.length):=Ead sm;simp only [go_sem,simprocAttr];(refine lws ?_;simp only [go_sem,simprocAttr,c1,tk,Jqx,List.length_range,Eai]);(repeat' (first|((refine Jqa hS ?_);simp only [go_sem,simprocAttr])|fail))
end Go.LX
namespace Go.LX
open Go Go.RowKit Go.Proofs
theorem SWP.seq {X:Cx} {ro:Option Nat} {x y:Code} {Q:Ex->St->Prop} {s:St} (h:SWP X ro x (kseq (fun Q s=>SWP X ro y Q s) Q) s):SWP X ro (x.seq y) Q s:=fun Γ a w hG hr=>by
 refine wpIn_seq (wpIn_mono (h Γ a w hG hr) fun e a w hq=>?_);cases e with
 | normal=>obtain ⟨s',h1,h2⟩:=hq;exact h1 Γ a w hG h2
 | exit id=>exact hq
 | ret=>exact hq
 | goto l=>exact hq.elim
 | panic c=>exact hq.elim
 | outgrown=>exact hq.elim
theorem Al.same {X Y:Cx} {f:FuncId} {args:List L} {rs:Regs} {Post:L->Regs->Prop} (hP:X.P=Y.P) (hG:X.G=Y.G) (h:Al Y f args rs Post):Al X f args rs Post:=by
 unfold Al at h ⊢;rw [hP,hG];exact h
attribute [local irreducible] Al Bi SWP
noncomputable def cxg:Cx:=⟨Tryz.prog,QuoteG,QuoteG.mono,Kfa,fun t=>t == 103⟩
theorem Jxs:cxg.P=Tryz.prog:=(rfl)
theorem J8r {f:Nat}:cxg.kind f=cx.kind f:=(rfl)
theorem J20 {t:Nat}:cxg.keep t=(t == 103):=(rfl)
def grpL (o:List (List Nat)) (m:Nat):List (List L):=(o.map fun g=>[L.p (.sl (natL g))]) ++ [[.own 50 0 m]]
theorem Kf3 (o:List (List Nat)) (m:Nat):(grpL o m).length=o.length+1:=by simp [grpL]
theorem Kcn (o:List (List Nat)) (m:Nat):(grpL o m)[o.length]? = some [.own 50 0 m]:=by
 unfold grpL;rw [Ean sm];simp
theorem Jwy {e:Nat} (he:e≠50) (o:List (List Nat)) (m:Nat):(grpL o m).map (fun x=>x.map (L.forget e))=grpL o m:=by
 unfold grpL;rw [Ebu,Ebs];congr 1;simp [L.forget,L.mentions,Ne.symm he]
theorem Ke4 (o:List (List Nat)) (m:Nat):(grpL o m).map (fun x=>x.map (L.forget 39))=grpL o m:=Jwy de o m
theorem Kfo (o:List (List Nat)) (m:Nat):(grpL o m).map (fun x=>x.map (L.forget 40))=grpL o m:=Jwy de o m
theorem Ker (o:List (List Nat)) (m:Nat):(grpL o m).map (fun x=>x.map (L.forget 49))=grpL o m:=Jwy de o m
def grpJ (o:List (List Nat)):List (List L):=(o.map fun g=>[L.p (.sl (natL g))]) ++ [[.junk]]
theorem Kd5 (o:List (List Nat)) (m:Nat):(grpL o m).map (fun x=>x.map (L.forget 50))=grpJ o:=by
 unfold grpL grpJ;rw [Ebu,Ebs];congr 1
theorem Kex (o:List (List Nat)):(grpJ o).map (fun x=>x.map (L.forget 50))=grpJ o:=by
 unfold grpJ;rw [Ebu,Ebs];congr 1
theorem Kd7 (o:List (List Nat)):(grpJ o)[o.length]? = some [.junk]:=by
 unfold grpJ;rw [Ean sm];simp
theorem Kee (o:List (List Nat)) (m:Nat):(grpJ o).set o.length [.own 50 0 m]=grpL o m:=by
 unfold grpJ grpL;rw [List.set_append_right _ _ sm];simp
theorem Kb2 (o:List (List Nat)) (m:Nat):Jvk 41 (grpL o m)=true:=by
 simp [Jvk,grpL,L.mentions]
def grpM (o:List (List Nat)):List (List L):=(o.map fun g=>[L.p (.sl (natL g))]) ++ [[.own 39 0 1]]
theorem Kgf (o:List (List Nat)) (b:Nat) (g:List Nat):(grpL o (g.length+1) ++ [[L.own 39 0 1]]).map (fun e=>e.map (L.freeze 50 (.rw (natL (b :: g)))))=grpM (o ++ [b :: g]):=by
 have h:Fz.own (.rw (natL (b :: g))) 0 (g.length+1)=.p (.sl (natL (b :: g))):=by
  unfold Fz.own;simp only;rw [if_pos sm,Ebi,Ead sm]
 unfold grpL grpM;simp only [Ebu,Ebs,Eat,Eb5,Ea2];congr 1;simp only [L.freeze,if_pos,h];rfl
theorem Kew (o:List (List Nat)):(grpM o).map (fun e=>e.map (L.map (Fb 39 50)))=grpL o 1:=by
 unfold grpL grpM;simp only [Ebu,Ebs,Eat,Eb5];congr 1
theorem Ke3 (o:List (List Nat)) (b:Nat) (g:List Nat):(grpL o (g.length+1)).map (fun e=>e.map (L.freeze 50 (.rw (natL (b :: g)))))=(o ++ [b :: g]).map fun g=>[L.p (.sl (natL g))]:=by
 have h:Fz.own (.rw (natL (b :: g))) 0 (g.length+1)=.p (.sl (natL (b :: g))):=by
  unfold Fz.own;simp only;rw [if_pos sm,Ebi,Ead sm]
 unfold grpL;simp only [Ebu,Ebs,Eat,Eb5];congr 1;simp only [L.freeze,if_pos,h]
theorem pureG:∀ o:List (List Nat),Cb (o.map fun g=>[L.p (.sl (natL g))])=some (Jro o)
 | []=>rfl
 | g :: o=>by
  rw [Eat,Cb,pureG o];rfl
theorem J5g:∀ l:List L,Aw l l
 | []=>trivial
 | a :: l=>⟨Ai a,J5g l⟩
@[
 simp] theorem Kch:∀ l:List (List L),Jbp l l
 | []=>trivial
 | e :: l=>⟨J5g e,Kch l⟩
attribute [go_sem] Tryz.ntmps96 Tryz.results96
theorem Kc4 (ks:List Tree) (hk:J4h ks):Det cx 96 [.p (.sl (Jqd ks))] [] (.p (.sl (Jro (Jri ks)))) []:=by
 have hS:=Al.same (X:=cxg) (Y:=cx) rfl rfl (Kbp ks hk);have ok:=hk.1;have hsl:=Jsc ks;have hsm:∀ i∈Jra ks,i<ks.length:=fun i h=>Jsz.1 h
 have hgr:Jri ks=Jrp (Jrj ks (Jra ks)):=rfl;have hinv:=Jxk ok (J6h ok);refine Al.same (X:=cx) (Y:=cxg) rfl rfl ?_;rw [hgr];have hkl:=hk.2.1;have hko:∀ t∈ks,okT t:=hk.1;have hkz:=hk.2.2;generalize Jra ks=S at *
 (refine Jvz false [] Tryz.func96 ?_;refine Ae hm _ _ _ ?_;simp only [go_sem,simprocAttr,Jxs,J8r]);refine Jqa hS ?_;simp only [go_sem,simprocAttr,Jxs,Jqx];refine SWP.loop (fun i:Nat=>if i=0 then ⟨Ba 54 [(0,.p (.sl (Jqd ks))),(3,.p .snil),(8,.p (.sl (natL S))),(9,.p (.int .i64 S.length)),(10,.p (.int .i64 i))],[]⟩ else ⟨Ba 54 [(0,.p (.sl (Jqd ks))),(3,.own 41 0 ((Jrj ks (S.take i)).1.length+1)),(8,.p (.sl (natL S))),(9,.p (.int .i64 S.length)),(10,.p (.int .i64 i))],[(50,.row 3 1 (natL (Jrj ks (S.take i)).2)),(41,.lrow 101 1 false (grpL (Jrj ks (S.take i)).1 (Jrj ks (S.take i)).2.length))]⟩) (fun i=>i<=S.length/\(i≠0->(Jrj ks (S.take i)).2≠[])) (fun i=>S.length - i) 0 (by rw [if_pos rfl];exact Jqc) ⟨Eav _,fun h=>absurd rfl h⟩ ?_;rintro i ⟨hi,hne⟩;by_cases hlt:i<S.length
 ·have c1:((i:Int)<(S.length:Int))=True:=eq_true omg;obtain ⟨a,ha⟩:∃ a,S[i]? = some a:=⟨_,Eaa hlt⟩
  have hga:=Juk ha;have hal:=hsm a (Eae ha);obtain ⟨t,ht⟩:∃ t,ks[a]? = some t:=⟨_,Eaa hal⟩
  have hgt:=Jq5 ht;have hstep:=Jye (ks:=ks) ha;have hmem:∀ x∈(Jrj ks (S.take i)).2,x<ks.length:=fun x hx=>by
   refine hsm x (Ebm (i:=i) ?_);rw [<- (hinv i hi).flat];exact Eb8 _ hx
  have hcl:=J4o (hinv i hi);rw [Eaw] at hcl;by_cases i0:i=0
  ·subst i0;have hst:Jrj ks (S.take 1)=([],[a]):=by rw [hstep,List.take_zero,J0c];unfold Ju8;rw [if_neg sm];rfl
   rw [if_pos rfl];have w1:IntKind.i64.wrap 1=1:=by decide
   (refine Ae hm _ _ _ ?_;simp only [go_sem,simprocAttr,Jxs,hga]);(repeat' (first|(refine J51 hm ?_;simp only [go_sem,simprocAttr,Jxs,J20,w1])|(apply iteI<;>intro h)|(exfalso;omega)));(repeat' (first|(refine And.intro (by rfl) ?_)|fail));refine ⟨1,⟨by omega,fun _=>by rw [hst];simp⟩,by omega,?_⟩;rw [if_neg de,hst];refine St.Le.trans (B1 [(39,50)] _ sm) ?_;simp only [go_sem,simprocAttr];show St.Le _ ⟨Ba 54 [(0,.p (.sl (Jqd ks))),(3,.own 41 0 1),(8,.p (.sl (natL S))),(9,.p (.int .i64 S.length)),(10,.p (.int .i64 (1:Nat)))],[(50,.row 3 1 [[.int .i64 (a:Int)]]),(41,.lrow 101 1 false [[.own 50 0 1]])]⟩;exact Jqc
  ·have hne2:=hne i0;generalize Jrj ks (S.take i)=st at *
   obtain ⟨o,g⟩:=st;simp only at hmem hne2;obtain ⟨b,g,rfl⟩:=List.exists_cons_of_ne_nil hne2;have hbl:=hmem b Eaf;obtain ⟨u,hu⟩:∃ u,ks[b]? = some u:=⟨_,Eaa hbl⟩
   have hgu:=Jq5 hu;have mt:=Eae ht;have mu:=Eae hu;have hC:=Al.same (X:=cxg) (Y:=cx) rfl rfl (Ke2 _ t u (Eai _) (hko t mt) (hko u mu) (hkz t mt) (hkz u mu));have hgl:=Kcn o (g.length+1);have hgn:=Kf3 o (g.length+1);simp only [List.length_cons] at hcl;have hol:o.length+1<=ks.length:=by omega
   have w0:IntKind.i64.wrap (((o.length+1:Nat):Int) - 1)=(o.length:Int):=by rw [Aa omg omg];omega
   have hg0:(natL (b :: g))[0]? = some [.int .i64 (b:Int)]:=rfl;have i0':((i:Int)=0)=False:=eq_false omg;rw [if_neg i0];simp only;(refine Ae hm _ _ _ ?_;simp only [go_sem,simprocAttr,Jxs,c1,hga,w0,wj1 (i:=i) omg]);(repeat' (first|(refine J51 hm ?_;simp only [go_sem,simprocAttr,Jxs,hgt,hgu,hgl,hg0,i0',wj1 (i:=i) omg])|(apply iteI<;>intro h)|refine Jqj ?_|((refine Jqb hC ?_);simp only [go_sem,simprocAttr,Jxs,J20,Jqx,hgl,hgn,wj1 (i:=i) omg,Ke4,Kfo,Ker,Kd5,Kex,Kee,Kb2,Kd7])|fail))
   ·have hcm:¬ cmpT t u=0:=by assumption
    have hst:Jrj ks (S.take (i+1))=(o ++ [b :: g],[a]):=by
     rw [hstep];unfold Ju8;rw [if_pos ⟨by simp,by rw [Jrq ht,List.headD_cons,Jrq hu];exact hcm⟩]
    (repeat' (first|(refine And.intro (by first | rfl | omega) ?_)|fail));refine ⟨i+1,⟨by omega,fun _=>by rw [hst];simp⟩,by omega,?_⟩;rw [if_neg (Nat.succ_ne_zero i),hst];refine St.Le.trans (Jty _ (d:=50)) ?_;simp only [go_sem,simprocAttr,Jqx,wj1 (i:=i) omg];rw [Kgf];refine St.Le.trans (B1 [(39,50)] _ sm) ?_;simp only [go_sem,simprocAttr,wj1 (i:=i) omg];rw [Kew];have e3:(o ++ [b :: g]).length=o.length+1:=by simp
    have e4:natL [a]=[[.int .i64 (a:Int)]]:=rfl;rw [e4];simp only [e3];exact Jqc
   ·have hcm:cmpT t u=0:=by first | assumption | (apply Ea1.1;assumption)
    have hst:Jrj ks (S.take (i+1))=(o,b :: g ++ [a]):=by
     rw [hstep];unfold Ju8;rw [if_neg (by rintro ⟨_,h⟩;rw [Jrq ht,List.headD_cons,Jrq hu] at h;exact h hcm)]
    have e1:(b :: g ++ [a]).length=g.length+1+1:=by simp
    have e2:natL (b :: g) ++ [[.int .i64 (a:Int)]]=natL (b :: g ++ [a]):=(Jvf (b :: g) [a]).symm;(repeat' (first|(refine And.intro (by first | omega | (simp;done)) ?_)|fail));refine ⟨i+1,⟨by omega,fun _=>by rw [hst];exact List.cons_ne_nil _ _⟩,by omega,?_⟩;rw [if_neg (Nat.succ_ne_zero i),hst];simp only [e1];rw [e2];exact Jqc
 ·obtain rfl:i=S.length:=by omega
  have c1:((S.length:Int)<(S.length:Int))=False:=eq_false omg;rw [List.take_length] at hne;by_cases i0:S.length=0
  ·have hS0:S=[]:=Eal i0;subst hS0;rw [if_pos (show ([]:List Nat).length=0 from rfl)];refine Jqg (s':=⟨Ba 54 [(0,.p (.sl (Jqd ks))),(3,.p (.sl [])),(8,.p (.sl (natL []))),(9,.p (.int .i64 (0:Nat))),(10,.p (.int .i64 (0:Nat)))],[]⟩) Jqc ?_;have c0:(((0:Nat):Int)<((0:Nat):Int))=False:=eq_false omg;(refine Ae hm _ _ _ ?_;simp only [go_sem,simprocAttr,Jxs])
   all_goals (rw [J0c];rfl)
  ·have hne2:=hne i0;rw [if_neg i0];simp only [List.take_length];generalize Jrj ks S=st at *
   obtain ⟨o,g⟩:=st;simp only at hne2;obtain ⟨b,g,rfl⟩:=List.exists_cons_of_ne_nil hne2;rw [Jt4 sm];simp only;refine Jqg (Jty _ (d:=50)) ?_;have hgl:(Jro (o ++ [b :: g])).length=o.length+1:=by simp
   have htk:(Jro (o ++ [b :: g])).take (o.length+1)=Jro (o ++ [b :: g]):=Ead (by rw [hgl];exact Eai _);have htp:Cb ((((o ++ [b :: g]).map fun g=>[L.p (.sl (natL g))])).take (o.length+1))=some (Jro (o ++ [b :: g])):=by
    rw [Ead sm,pureG]
   simp only [go_sem,simprocAttr];rw [Ke3];refine Jqg (Jyo (d:=41) (es:=Jro (o ++ [b :: g])) (o.length+1) rfl htp) ?_;simp only [Bs,go_sem,simprocAttr,Jxs,J8r,J20,Jqf,Jqx,c1,hgl,htk,Eai,if_true];(refine Ae hm _ _ _ ?_;simp only [go_sem,simprocAttr,Jxs,c1,hgl,htk,Eai])
end Go.LX
